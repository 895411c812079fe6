/- Plain Lean functions with the same answers as the Go functions of this seat, and a proof for each that the Go code comes to just these answers; no condition. Written by a program of this session (the kit's printer, turned). -/
import Derived.Test.YtaophbkedbphnaaQx0
import Derived.Test.YtaophbkedbphnaaQx13
import Derived.Test.YtaophbkedbphnaaQx14
import Derived.Test.YtaophbkedbphnaaQx25
import Derived.Test.YtaophbkedbphnaaQx27
namespace Go.Proofs.Ytaophbkedbphnaa.Q
open Go.RowKit Go.Proofs.YtaophbkedbphnaaW.PrintWords Go.Proofs.YtaophbkedbphnaaW.PrintLast Go.Proofs.YtaophbkedbphnaaW.PrintMore Go.Proofs.YtaophbkedbphnaaW.PrintFlt
attribute [local go_sem] cmp_lss cmp_leq cmp_gtr cmp_geq cmp_eql cmp_neq flt_l flt_r fgt_l fgt_r feq_l feq_r fne_l fne_r ord_lt ord_gt ord_eq ord_ne conv_int foi_fold run_store_flt
attribute [local go_sem] max2_int min2_int max_two min_two max_three min_three max_four min_four   -- for this text's walks alone
set_option linter.unusedVariables false
set_option linter.unusedSimpArgs false

/-! ### laws_FnAtPoints: function 7 -/
mutual
def laws_FnAtPoints.j0 : Nat → List Int → List Int → Bool → Option (Bool)
 | 0, _, _, _ => none
 | k + 1, x0, x1, x20 => if x20 = true then (some true) else ((spec_DrawAt.f k x0).bind fun bt317 => ((spec_GridOk.f bt317.1 bt317.2.1 bt317.2.2.1 bt317.2.2.2.1 bt317.2.2.2.2.1).bind fun t328 => (if t328 = true then (laws_FnAtPoints.j1 k x1 bt317.2.2.2.2.2.1 ((bt317.2.2.2.2.2.1.length : Int) != (wrap64 (bt317.1 * bt317.2.1))) bt317.1 bt317.2.1 bt317.2.2.1 bt317.2.2.2.1 bt317.2.2.2.2.1) else (laws_FnAtPoints.j1 k x1 bt317.2.2.2.2.2.1 true bt317.1 bt317.2.1 bt317.2.2.1 bt317.2.2.2.1 bt317.2.2.2.2.1))))
def laws_FnAtPoints.j1 : Nat → List Int → List (Nat) → Bool → Int → Int → Int → Int → Int → Option (Bool)
 | 0, _, _, _, _, _, _, _, _ => none
 | k + 1, x1, x6, x40, x328000, x328001, x328002, x328003, x328004 => if x40 = true then (some true) else (if (wrap64 (x328000 - 1)) = 0 then (none) else (if (wrap64 (x328001 - 1)) = 0 then (none) else (laws_FnAtPoints.l0 k x6 ((x1.length : Int) % (wrap64 (x328000 - 1))) (Int.tmod (wrap64 ((x1.length : Int) / 7)) (wrap64 (x328001 - 1))) 0 x328000 x328001 x328002 x328003 x328004)))
def laws_FnAtPoints.l0 : Nat → List (Nat) → Int → Int → Int → Int → Int → Int → Int → Int → Option (Bool)
 | 0, _, _, _, _, _, _, _, _, _ => none
 | k + 1, x6, x9, x10, x11, x328000, x328001, x328002, x328003, x328004 => if x11 < 4 then (if 0 ≤ (wrap64 ((wrap64 ((wrap64 ((wrap64 (x9 + (wrap64 (Int.tdiv x11 2)))) * x328001)) + x10)) + (Int.tmod x11 2))) then (if (wrap64 ((wrap64 ((wrap64 ((wrap64 (x9 + (wrap64 (Int.tdiv x11 2)))) * x328001)) + x10)) + (Int.tmod x11 2))) < (x6.length : Int) then (if (fgt (rd_F x6 (wrap64 ((wrap64 ((wrap64 ((wrap64 (x9 + (wrap64 (Int.tdiv x11 2)))) * x328001)) + x10)) + (Int.tmod x11 2)))) 9094988921128908188) = true then (some true) else (if (flt (rd_F x6 (wrap64 ((wrap64 ((wrap64 ((wrap64 (x9 + (wrap64 (Int.tdiv x11 2)))) * x328001)) + x10)) + (Int.tmod x11 2)))) 18318360957983683996) = true then (some true) else (laws_FnAtPoints.l0 k x6 x9 x10 (wrap64 (x11 + 1)) x328000 x328001 x328002 x328003 x328004))) else (none)) else (none)) else (if 0 ≤ (wrap64 ((wrap64 (x9 * x328001)) + x10)) then (if (wrap64 ((wrap64 (x9 * x328001)) + x10)) < (x6.length : Int) then ((impl_At.f k x328000 x328001 x328002 x328003 x328004 x6 (wrap64 (x328002 + (wrap64 (x9 * x328004)))) (wrap64 (x328003 + (wrap64 (x10 * x328004))))).bind fun t331 => (if (feq (rd_F x6 (wrap64 ((wrap64 (x9 * x328001)) + x10))) t331) = true then (some true) else (if (fne (rd_F x6 (wrap64 ((wrap64 (x9 * x328001)) + x10))) (rd_F x6 (wrap64 ((wrap64 (x9 * x328001)) + x10)))) = true then (some (fne t331 t331)) else (some false)))) else (none)) else (none))
end
def laws_FnAtPoints.f (k : Nat) (l0 : List Int) (l1 : List Int) : Option (Bool) := (laws_big.f l0).bind fun t315 => (if t315 = true then (laws_FnAtPoints.j0 k l0 l1 true) else ((laws_big.f l1).bind fun t316 => (laws_FnAtPoints.j0 k l0 l1 t316)))
theorem laws_FnAtPoints.mono_l : ∀ k, (∀ y0 y1 y2, LeO (laws_FnAtPoints.j0 k y0 y1 y2) (laws_FnAtPoints.j0 (k + 1) y0 y1 y2)) ∧ (∀ y0 y1 y2 y3 y4 y5 y6 y7, LeO (laws_FnAtPoints.j1 k y0 y1 y2 y3 y4 y5 y6 y7) (laws_FnAtPoints.j1 (k + 1) y0 y1 y2 y3 y4 y5 y6 y7)) ∧ (∀ y0 y1 y2 y3 y4 y5 y6 y7 y8, LeO (laws_FnAtPoints.l0 k y0 y1 y2 y3 y4 y5 y6 y7 y8) (laws_FnAtPoints.l0 (k + 1) y0 y1 y2 y3 y4 y5 y6 y7 y8))
 | 0 => ⟨fun _ _ _ r h => by simp [laws_FnAtPoints.j0] at h, fun _ _ _ _ _ _ _ _ r h => by simp [laws_FnAtPoints.j1] at h, fun _ _ _ _ _ _ _ _ _ r h => by simp [laws_FnAtPoints.l0] at h⟩
 | k + 1 => by
  obtain ⟨ih0, ih1, ih2⟩ := laws_FnAtPoints.mono_l k
  refine ⟨?_, ?_, ?_⟩
  ·intro y0 y1 y2
   unfold laws_FnAtPoints.j0
   repeat' first
   | (with_reducible exact ih0 _ _ _)
   | (with_reducible exact ih1 _ _ _ _ _ _ _ _)
   | (with_reducible exact ih2 _ _ _ _ _ _ _ _ _)
   | (with_reducible exact impl_At.mono _ _ _ _ _ _ _ _ _)
   | (with_reducible exact spec_DrawAt.mono _ _)
   | (with_reducible exact LeO.refl _)
   | (with_reducible exact LeO.none _)
   | (with_reducible refine LeO.ite ?_ ?_)
   | (with_reducible refine LeO.bind ?_ (fun _ => ?_))
   | exact ih0 _ _ _
   | exact ih1 _ _ _ _ _ _ _ _
   | exact ih2 _ _ _ _ _ _ _ _ _
   | exact impl_At.mono _ _ _ _ _ _ _ _ _
   | exact spec_DrawAt.mono _ _
   | exact LeO.none _
   | refine LeO.ite ?_ ?_
   | refine LeO.bind ?_ (fun _ => ?_)
  ·intro y0 y1 y2 y3 y4 y5 y6 y7
   unfold laws_FnAtPoints.j1
   repeat' first
   | (with_reducible exact ih0 _ _ _)
   | (with_reducible exact ih1 _ _ _ _ _ _ _ _)
   | (with_reducible exact ih2 _ _ _ _ _ _ _ _ _)
   | (with_reducible exact impl_At.mono _ _ _ _ _ _ _ _ _)
   | (with_reducible exact spec_DrawAt.mono _ _)
   | (with_reducible exact LeO.refl _)
   | (with_reducible exact LeO.none _)
   | (with_reducible refine LeO.ite ?_ ?_)
   | (with_reducible refine LeO.bind ?_ (fun _ => ?_))
   | exact ih0 _ _ _
   | exact ih1 _ _ _ _ _ _ _ _
   | exact ih2 _ _ _ _ _ _ _ _ _
   | exact impl_At.mono _ _ _ _ _ _ _ _ _
   | exact spec_DrawAt.mono _ _
   | exact LeO.none _
   | refine LeO.ite ?_ ?_
   | refine LeO.bind ?_ (fun _ => ?_)
  ·intro y0 y1 y2 y3 y4 y5 y6 y7 y8
   unfold laws_FnAtPoints.l0
   repeat' first
   | (with_reducible exact ih0 _ _ _)
   | (with_reducible exact ih1 _ _ _ _ _ _ _ _)
   | (with_reducible exact ih2 _ _ _ _ _ _ _ _ _)
   | (with_reducible exact impl_At.mono _ _ _ _ _ _ _ _ _)
   | (with_reducible exact spec_DrawAt.mono _ _)
   | (with_reducible exact LeO.refl _)
   | (with_reducible exact LeO.none _)
   | (with_reducible refine LeO.ite ?_ ?_)
   | (with_reducible refine LeO.bind ?_ (fun _ => ?_))
   | exact ih0 _ _ _
   | exact ih1 _ _ _ _ _ _ _ _
   | exact ih2 _ _ _ _ _ _ _ _ _
   | exact impl_At.mono _ _ _ _ _ _ _ _ _
   | exact spec_DrawAt.mono _ _
   | exact LeO.none _
   | refine LeO.ite ?_ ?_
   | refine LeO.bind ?_ (fun _ => ?_)
theorem laws_FnAtPoints.mono : ∀ a0 a1 k, LeO (laws_FnAtPoints.f k a0 a1) (laws_FnAtPoints.f (k + 1) a0 a1) := by
 intro a0 a1 k
 obtain ⟨ih0, ih1, ih2⟩ := laws_FnAtPoints.mono_l k
 unfold laws_FnAtPoints.f
 repeat' first
   | (with_reducible exact ih0 _ _ _)
   | (with_reducible exact ih1 _ _ _ _ _ _ _ _)
   | (with_reducible exact ih2 _ _ _ _ _ _ _ _ _)
   | (with_reducible exact impl_At.mono _ _ _ _ _ _ _ _ _)
   | (with_reducible exact spec_DrawAt.mono _ _)
   | (with_reducible exact LeO.refl _)
   | (with_reducible exact LeO.none _)
   | (with_reducible refine LeO.ite ?_ ?_)
   | (with_reducible refine LeO.bind ?_ (fun _ => ?_))
   | exact ih0 _ _ _
   | exact ih1 _ _ _ _ _ _ _ _
   | exact ih2 _ _ _ _ _ _ _ _ _
   | exact impl_At.mono _ _ _ _ _ _ _ _ _
   | exact spec_DrawAt.mono _ _
   | exact LeO.none _
   | refine LeO.ite ?_ ?_
   | refine LeO.bind ?_ (fun _ => ?_)
set_option maxHeartbeats 8000000 in
set_option maxRecDepth 100000 in
theorem laws_FnAtPoints.calls (k : Nat) (A0 : Option Addr) (c0 : Nat) (l0 : List Int) (A1 : Option Addr) (c1 : Nat) (l1 : List Int) (r : Bool) (w : World) (hr0 : Kd.C (Kd.int .u8) w A0 l0.length l0) (hc0 : l0.length ≤ c0) (hr1 : Kd.C (Kd.int .u8) w A1 l1.length l1) (hc1 : l1.length ≤ c1) (h : laws_FnAtPoints.f k l0 l1 = some r) :
  Calls Try.prog 7 #[.slice A0 l0.length c0, .slice A1 l1.length c1] w fun e w' => e = .returned (.bool r) ∧ Below w.heap.size w w' := by
 have hu43 := Try.underlying43
 have HR0 := Aside0.mk hr0
 have HC0 := Aside0.mk hc0
 clear hr0 hc0
 have HR1 := Aside0.mk hr1
 have HC1 := Aside0.mk hc1
 clear hr1 hc1
 have HB := Aside0.mk (Below.refl w.heap.size w)
 have H : ((laws_big.f l0).bind fun t315 => (if t315 = true then (laws_FnAtPoints.j0 k l0 l1 true) else ((laws_big.f l1).bind fun t316 => (laws_FnAtPoints.j0 k l0 l1 t316)))) = some r := h
 clear h
 have HC3 := Aside0.mk H
 clear H
 go_enter Try.func7, Try.ntmps7
 go_upto_region 1 with (fail)
 go_cut [20] (fun v20 wc => ∃ (kq : Nat) (x20_2 : Bool), v20 = .bool x20_2 ∧ Aside0 (laws_FnAtPoints.j0 kq l0 l1 x20_2 = some r) ∧ Aside0 (kq ≤ k) ∧ Aside0 (Below w.heap.size w wc))
 case first =>
  have H := HC3.out
  clear HC3
  replace H := Option.bind_eq_some_iff.mp H
  obtain ⟨t315, A40, H⟩ := H
  replace H : (if t315 = true then (laws_FnAtPoints.j0 k l0 l1 true) else ((laws_big.f l1).bind fun t316 => (laws_FnAtPoints.j0 k l0 l1 t316))) = some r := H
  have A4 := Aside0.mk A40
  clear A40
  by_cases c5 : t315 = true
  ·subst c5
   have H1 : (laws_FnAtPoints.j0 k l0 l1 true) = some r := by rw [if_pos rfl] at H; exact H
   clear H
   have H := H1
   clear H1
   have H' := Aside0.mk H
   clear H
   go_wp2_with (first | ((with_reducible refine gate_callee (f := 28) rfl ?_); refine goesL_ (some 16) rfl rfl Try.func28 (by kernel_rfl) rfl #[.slice A0 l0.length c0] rfl (by (try simp only [List.map_toArray, List.map_cons, List.map_nil]); first | done | rfl | (simp only [List.length_drop, List.length_take]; rfl)) ?_; (with_reducible refine (laws_big.calls _ _ l0 true _ ?side1 ?side2 A4.out).mono ?_); (case side1 => repeat (first | exact (Kd.C_below HR0.out HB.out) | (with_reducible refine Kd.C_alloc ?_ _) | (with_reducible refine Kd.C_drewN ?_ _) | (with_reducible refine Kd.C_drew ?_))); (case side2 => exact HC0.out); rintro e w' ⟨rfl, ⟨nd, rfl⟩⟩; refine ⟨_, rfl, ?_⟩))
   go_meet
   case rel => exact ⟨_, (true), (by first | rfl | (simp; done) | (simp [*]; done)), H', ⟨by first | omega | exact Nat.le_refl _⟩, ⟨by repeat (first | (with_reducible first | exact HB.out | apply below_alloc | apply pw_below_drewN | apply below_drew1) | exact HB.out)⟩⟩
  ·replace c5 := Bool.eq_false_iff.mpr c5
   subst c5
   have H1 : ((laws_big.f l1).bind fun t316 => (laws_FnAtPoints.j0 k l0 l1 t316)) = some r := by rw [if_neg (show ¬ (false = true) by decide)] at H; exact H
   clear H
   have H := H1
   clear H1
   replace H := Option.bind_eq_some_iff.mp H
   obtain ⟨t316, A60, H⟩ := H
   replace H : (laws_FnAtPoints.j0 k l0 l1 t316) = some r := H
   have A6 := Aside0.mk A60
   clear A60
   have H' := Aside0.mk H
   clear H
   go_wp2_with (first | ((with_reducible refine gate_callee (f := 28) rfl ?_); refine goesL_ (some 16) rfl rfl Try.func28 (by kernel_rfl) rfl #[.slice A0 l0.length c0] rfl (by (try simp only [List.map_toArray, List.map_cons, List.map_nil]); first | done | rfl | (simp only [List.length_drop, List.length_take]; rfl)) ?_; (with_reducible refine (laws_big.calls _ _ l0 false _ ?side1 ?side2 A4.out).mono ?_); (case side1 => repeat (first | exact (Kd.C_below HR0.out HB.out) | (with_reducible refine Kd.C_alloc ?_ _) | (with_reducible refine Kd.C_drewN ?_ _) | (with_reducible refine Kd.C_drew ?_))); (case side2 => exact HC0.out); rintro e w' ⟨rfl, ⟨nd, rfl⟩⟩; refine ⟨_, rfl, ?_⟩) | (go_at_call 28; (with_reducible refine (laws_big.calls _ _ l1 t316 _ ?side1 ?side2 A6.out).mono ?_); (case side1 => repeat (first | exact (Kd.C_below HR1.out (by repeat (first | (with_reducible first | exact HB.out | apply below_alloc | apply pw_below_drewN | apply below_drew1) | exact HB.out))) | (with_reducible refine Kd.C_alloc ?_ _) | (with_reducible refine Kd.C_drewN ?_ _) | (with_reducible refine Kd.C_drew ?_))); (case side2 => exact HC1.out); rintro e w' ⟨rfl, ⟨nd, rfl⟩⟩))
   go_meet
   case rel => exact ⟨_, (t316), (by first | rfl | (simp; done) | (simp [*]; done)), H', ⟨by first | omega | exact Nat.le_refl _⟩, ⟨by repeat (first | (with_reducible first | exact HB.out | apply below_alloc | apply pw_below_drewN | apply below_drew1) | exact HB.out)⟩⟩
 case rest =>
  clear HC3
  try clear c1
  try clear c2
  try clear p2
  try clear c5
  obtain ⟨kq, x20_2, rfl, HA, HJ2, HB⟩ := hcut
  cases kq with
  | zero => exact absurd HA.out (by simp [laws_FnAtPoints.j0])
  | succ kj2 =>
   have H := HA.out
   clear HA
   simp only [laws_FnAtPoints.j0] at H
   by_cases c7 : x20_2 = true
   ·subst c7
    have H1 : (some true) = some r := by rw [if_pos rfl] at H; exact H
    clear H
    have H := H1
    clear H1
    obtain rfl := Option.some.inj H
    go_wp2
    go_ret
    exact ⟨by first | rfl | (simp [errW_none, errW_some] <;> rfl) | (simp [*, errW_none, errW_some] <;> rfl), by repeat (first | (with_reducible first | exact HB.out | apply below_alloc | apply pw_below_drewN | apply below_drew1) | exact HB.out)⟩
   ·replace c7 := Bool.eq_false_iff.mpr c7
    subst c7
    have H1 : ((spec_DrawAt.f kj2 l0).bind fun bt317 => ((spec_GridOk.f bt317.1 bt317.2.1 bt317.2.2.1 bt317.2.2.2.1 bt317.2.2.2.2.1).bind fun t328 => (if t328 = true then (laws_FnAtPoints.j1 kj2 l1 bt317.2.2.2.2.2.1 ((bt317.2.2.2.2.2.1.length : Int) != (wrap64 (bt317.1 * bt317.2.1))) bt317.1 bt317.2.1 bt317.2.2.1 bt317.2.2.2.1 bt317.2.2.2.2.1) else (laws_FnAtPoints.j1 kj2 l1 bt317.2.2.2.2.2.1 true bt317.1 bt317.2.1 bt317.2.2.1 bt317.2.2.2.1 bt317.2.2.2.2.1)))) = some r := by rw [if_neg (show ¬ (false = true) by decide)] at H; exact H
    clear H
    have H := H1
    clear H1
    replace H := Option.bind_eq_some_iff.mp H
    obtain ⟨⟨t317, t318, t319, t320, t321, t322, t325, t326⟩, A80, H⟩ := H
    replace H : ((spec_GridOk.f t317 t318 t319 t320 t321).bind fun t328 => (if t328 = true then (laws_FnAtPoints.j1 kj2 l1 t322 ((t322.length : Int) != (wrap64 (t317 * t318))) t317 t318 t319 t320 t321) else (laws_FnAtPoints.j1 kj2 l1 t322 true t317 t318 t319 t320 t321))) = some r := H
    have A8 := Aside0.mk A80
    clear A80
    have HC9 := Aside0.mk H
    clear H
    go_upto_region 4 with (first | ((with_reducible refine gate_callee (f := 29) rfl ?_); refine goesL_ (some 23) rfl rfl Try.func29 (by kernel_rfl) rfl #[.slice A0 l0.length c0] rfl (by (try simp only [List.map_toArray, List.map_cons, List.map_nil]); first | done | rfl | (simp only [List.length_drop, List.length_take]; rfl)) ?_; (with_reducible refine (spec_DrawAt.calls kj2 _ _ l0 t317 t318 t319 t320 t321 t322 t325 t326 _ ?side1 ?side2 A8.out).mono ?_); (case side1 => repeat (first | exact (Kd.C_below HR0.out HB.out) | (with_reducible refine Kd.C_alloc ?_ _) | (with_reducible refine Kd.C_drewN ?_ _) | (with_reducible refine Kd.C_drew ?_))); (case side2 => exact HC0.out); rintro e w10 ⟨v323, rfl, ho0, hb⟩; refine ⟨_, rfl, ?_⟩; have n0_ := Aside0.mk (Kd.R_lower ho0 (below_size (by repeat (first | (with_reducible first | exact HB.out | apply below_alloc | apply pw_below_drewN | apply below_drew1) | exact HB.out)))); have n1_ := Aside0.mk (below_step (by repeat (first | (with_reducible first | exact HB.out | apply below_alloc | apply pw_below_drewN | apply below_drew1) | exact HB.out)) hb); clear HB; have HO324 := n0_; have HB := n1_; clear n0_ n1_; (try clear hb); (try clear hb2); (try clear hk); (try clear hi); (try clear ho0)) | ((with_reducible refine gate_dst (N := 5) rfl ?_); (try (refine gate_guard (by rfl) ?_; dsimp only)); refine box_event ?hg (N := 5) ?hd (cs := #[.int .i64 0, .int .i64 0, .int .i64 0, .int .i64 0, .int .i64 0]) (t := 43) ?hr ?_; (case hd => rfl); (case hg => rfl); (case hr => first | (go_simp; done) | (go_simp; rfl)); intro gb327 hg w11 hbox hb; have n0_ := Aside0.mk (Kd.R_below (by (with_reducible repeat (first | apply Kd.R_alloc | apply Kd.R_drewN | apply Kd.R_drew)); exact HO324.out) hb); have n1_ := Aside0.mk (below_step (by repeat (first | (with_reducible first | exact HB.out | apply below_alloc | apply pw_below_drewN | apply below_drew1) | exact HB.out)) hb); have n2_ := Aside0.mk (hbox); have n3_ := Aside0.mk ((by rw [hg]; exact (below_size (by repeat (first | (with_reducible first | exact HB.out | apply below_alloc | apply pw_below_drewN | apply below_drew1) | exact HB.out))) : w.heap.size ≤ gb327)); have n4_ := Aside0.mk ((by rw [hg]; exact (below_size (by repeat (first | (with_reducible first | exact HB.out | apply below_alloc | apply pw_below_drewN | apply below_drew1) | exact HB.out))) : w.heap.size ≤ gb327)); clear HO324; clear HB; have HO324 := n0_; have HB := n1_; have BK327 := n2_; have GW327 := n3_; have GE327 := n4_; clear n0_ n1_ n2_ n3_ n4_; clear hb hbox hg; have hcz12_0 : w11.cell? ⟨gb327, 0, none⟩ = some (.int .i64 0) := (blk_cell BK327.out 0).trans rfl; have hcz12_1 : w11.cell? ⟨gb327, 1, none⟩ = some (.int .i64 0) := (blk_cell BK327.out 1).trans rfl; have hcz12_2 : w11.cell? ⟨gb327, 2, none⟩ = some (.int .i64 0) := (blk_cell BK327.out 2).trans rfl; have hcz12_3 : w11.cell? ⟨gb327, 3, none⟩ = some (.int .i64 0) := (blk_cell BK327.out 3).trans rfl; have hcz12_4 : w11.cell? ⟨gb327, 4, none⟩ = some (.int .i64 0) := (blk_cell BK327.out 4).trans rfl; have hfz12_0 := blk_frozen BK327.out 0; have hfz12_1 := blk_frozen BK327.out 1; have hfz12_2 := blk_frozen BK327.out 2; have hfz12_3 := blk_frozen BK327.out 3; have hfz12_4 := blk_frozen BK327.out 4))
    (try simp only [Act.put, sqA, sqZ, sqS])
    go_cut [40] (fun v40 wc => ∃ (kq : Nat) (x40_8 : Bool), v40 = .bool x40_8 ∧ Aside0 (laws_FnAtPoints.j1 kq l1 t322 x40_8 t317 t318 t319 t320 t321 = some r) ∧ Aside0 (kq ≤ kj2) ∧ Aside0 (Kd.R Kd.flt 33 wc w.heap.size (fun _ => True) v323 t322) ∧ Aside0 (wc.heap[gb327]? = some (.cells #[.int .i64 t317, .int .i64 t318, .int .i64 t319, .int .i64 t320, .int .i64 t321] 43 (0, 0))) ∧ Aside0 (Below w.heap.size w wc))
    case first =>
     have H := HC9.out
     clear HC9
     replace H := Option.bind_eq_some_iff.mp H
     obtain ⟨t328, A130, H⟩ := H
     replace H : (if t328 = true then (laws_FnAtPoints.j1 kj2 l1 t322 ((t322.length : Int) != (wrap64 (t317 * t318))) t317 t318 t319 t320 t321) else (laws_FnAtPoints.j1 kj2 l1 t322 true t317 t318 t319 t320 t321)) = some r := H
     have A13 := Aside0.mk A130
     clear A130
     by_cases c14 : t328 = true
     ·subst c14
      have H1 : (laws_FnAtPoints.j1 kj2 l1 t322 ((t322.length : Int) != (wrap64 (t317 * t318))) t317 t318 t319 t320 t321) = some r := by rw [if_pos rfl] at H; exact H
      clear H
      have H := H1
      clear H1
      have H' := Aside0.mk H
      clear H
      have hcz15_0 : w11.cell? ⟨gb327, 0, none⟩ = some (.int .i64 0) := (blk_cell BK327.out 0).trans rfl
      have hcz15_1 : w11.cell? ⟨gb327, 1, none⟩ = some (.int .i64 0) := (blk_cell BK327.out 1).trans rfl
      have hcz15_2 : w11.cell? ⟨gb327, 2, none⟩ = some (.int .i64 0) := (blk_cell BK327.out 2).trans rfl
      have hcz15_3 : w11.cell? ⟨gb327, 3, none⟩ = some (.int .i64 0) := (blk_cell BK327.out 3).trans rfl
      have hcz15_4 : w11.cell? ⟨gb327, 4, none⟩ = some (.int .i64 0) := (blk_cell BK327.out 4).trans rfl
      have hfz15_0 := blk_frozen BK327.out 0
      have hfz15_1 := blk_frozen BK327.out 1
      have hfz15_2 := blk_frozen BK327.out 2
      have hfz15_3 := blk_frozen BK327.out 3
      have hfz15_4 := blk_frozen BK327.out 4
      go_wp2_with (first | ((with_reducible refine gate_callee (f := 30) rfl ?_); refine goesL_ (some 29) rfl rfl Try.func30 (by kernel_rfl) rfl #[.agg #[.int .i64 t317, .int .i64 t318, .int .i64 t319, .int .i64 t320, .int .i64 t321]] rfl (by (try simp only [List.map_toArray, List.map_cons, List.map_nil]); first | done | rfl | (simp only [List.length_drop, List.length_take]; rfl)) ?_; (with_reducible refine (spec_GridOk.calls t317 t318 t319 t320 t321 true _ A13.out).mono ?_); rintro e w16 ⟨rfl, hb⟩; refine ⟨_, rfl, ?_⟩; have n0_ := Aside0.mk (Kd.R_below (by (with_reducible repeat (first | apply Kd.R_alloc | apply Kd.R_drewN | apply Kd.R_drew)); exact (Kd.R_mono (Kd.R_far (p := ⟨gb327, 4, none⟩) (Kd.R_far (p := ⟨gb327, 3, none⟩) (Kd.R_far (p := ⟨gb327, 2, none⟩) (Kd.R_far (p := ⟨gb327, 1, none⟩) (Kd.R_far (p := ⟨gb327, 0, none⟩) (Kd.R_types HO324.out BK327.out (by decide)) (fun _ hk => hk.2) (.int .i64 t317)) (fun _ hk => hk.2) (.int .i64 t318)) (fun _ hk => hk.2) (.int .i64 t319)) (fun _ hk => hk.2) (.int .i64 t320)) (fun _ hk => hk.2) (.int .i64 t321)) (fun _ h_ => h_.1))) hb); have n1_ := Aside0.mk (blk_below (g := gb327) (o := .cells #[.int .i64 t317, .int .i64 t318, .int .i64 t319, .int .i64 t320, .int .i64 t321] 43 (0, 0)) (by (with_reducible repeat (first | refine blk_drewN ?_ _ | refine blk_drew ?_ | refine blk_alloc ?_ _)); refine blk_put (cs := #[.int .i64 t317, .int .i64 t318, .int .i64 t319, .int .i64 t320, .int .i64 0]) ?_ 4 _ rfl; (with_reducible repeat (first | refine blk_drewN ?_ _ | refine blk_drew ?_ | refine blk_alloc ?_ _)); refine blk_put (cs := #[.int .i64 t317, .int .i64 t318, .int .i64 t319, .int .i64 0, .int .i64 0]) ?_ 3 _ rfl; (with_reducible repeat (first | refine blk_drewN ?_ _ | refine blk_drew ?_ | refine blk_alloc ?_ _)); refine blk_put (cs := #[.int .i64 t317, .int .i64 t318, .int .i64 0, .int .i64 0, .int .i64 0]) ?_ 2 _ rfl; (with_reducible repeat (first | refine blk_drewN ?_ _ | refine blk_drew ?_ | refine blk_alloc ?_ _)); refine blk_put (cs := #[.int .i64 t317, .int .i64 0, .int .i64 0, .int .i64 0, .int .i64 0]) ?_ 1 _ rfl; (with_reducible repeat (first | refine blk_drewN ?_ _ | refine blk_drew ?_ | refine blk_alloc ?_ _)); refine blk_put (cs := #[.int .i64 0, .int .i64 0, .int .i64 0, .int .i64 0, .int .i64 0]) ?_ 0 _ rfl; (with_reducible repeat (first | refine blk_drewN ?_ _ | refine blk_drew ?_ | refine blk_alloc ?_ _)); exact BK327.out) hb); have n2_ := Aside0.mk (below_step (by repeat (first | (with_reducible first | exact HB.out | apply below_alloc | apply pw_below_drewN | apply below_drew1 | refine below_set ?_ GE327.out) | exact HB.out)) hb); clear HO324; clear BK327; clear HB; have HO324 := n0_; have BK327 := n1_; have HB := n2_; clear n0_ n1_ n2_; (try clear hb); (try clear hb2); (try clear hk); (try clear hi); obtain ⟨Ao17, co17, eo17⟩ := Kd.R_slice HO324.out; subst eo17; have hcz18_0 : w16.cell? ⟨gb327, 0, none⟩ = some (.int .i64 t317) := (blk_cell BK327.out 0).trans rfl; have hcz18_1 : w16.cell? ⟨gb327, 1, none⟩ = some (.int .i64 t318) := (blk_cell BK327.out 1).trans rfl; have hcz18_2 : w16.cell? ⟨gb327, 2, none⟩ = some (.int .i64 t319) := (blk_cell BK327.out 2).trans rfl; have hcz18_3 : w16.cell? ⟨gb327, 3, none⟩ = some (.int .i64 t320) := (blk_cell BK327.out 3).trans rfl; have hcz18_4 : w16.cell? ⟨gb327, 4, none⟩ = some (.int .i64 t321) := (blk_cell BK327.out 4).trans rfl; have hfz18_0 := blk_frozen BK327.out 0; have hfz18_1 := blk_frozen BK327.out 1; have hfz18_2 := blk_frozen BK327.out 2; have hfz18_3 := blk_frozen BK327.out 3; have hfz18_4 := blk_frozen BK327.out 4))
      go_meet
      case rel => exact ⟨_, (((t322.length : Int) != (wrap64 (t317 * t318)))), (by first | rfl | (simp; done) | (simp [*]; done)), H', ⟨by have := HJ2.out; first | omega | exact Nat.le_refl _⟩, ⟨by (with_reducible repeat (first | apply Kd.R_alloc | apply Kd.R_drewN | apply Kd.R_drew)); exact HO324.out⟩, ⟨by (with_reducible repeat (first | refine blk_drewN ?_ _ | refine blk_drew ?_ | refine blk_alloc ?_ _)); exact BK327.out⟩, ⟨by repeat (first | (with_reducible first | exact HB.out | apply below_alloc | apply pw_below_drewN | apply below_drew1 | refine below_set ?_ GE327.out) | exact HB.out)⟩⟩
     ·replace c14 := Bool.eq_false_iff.mpr c14
      subst c14
      have H1 : (laws_FnAtPoints.j1 kj2 l1 t322 true t317 t318 t319 t320 t321) = some r := by rw [if_neg (show ¬ (false = true) by decide)] at H; exact H
      clear H
      have H := H1
      clear H1
      have H' := Aside0.mk H
      clear H
      have hcz19_0 : w11.cell? ⟨gb327, 0, none⟩ = some (.int .i64 0) := (blk_cell BK327.out 0).trans rfl
      have hcz19_1 : w11.cell? ⟨gb327, 1, none⟩ = some (.int .i64 0) := (blk_cell BK327.out 1).trans rfl
      have hcz19_2 : w11.cell? ⟨gb327, 2, none⟩ = some (.int .i64 0) := (blk_cell BK327.out 2).trans rfl
      have hcz19_3 : w11.cell? ⟨gb327, 3, none⟩ = some (.int .i64 0) := (blk_cell BK327.out 3).trans rfl
      have hcz19_4 : w11.cell? ⟨gb327, 4, none⟩ = some (.int .i64 0) := (blk_cell BK327.out 4).trans rfl
      have hfz19_0 := blk_frozen BK327.out 0
      have hfz19_1 := blk_frozen BK327.out 1
      have hfz19_2 := blk_frozen BK327.out 2
      have hfz19_3 := blk_frozen BK327.out 3
      have hfz19_4 := blk_frozen BK327.out 4
      go_wp2_with (first | ((with_reducible refine gate_callee (f := 30) rfl ?_); refine goesL_ (some 29) rfl rfl Try.func30 (by kernel_rfl) rfl #[.agg #[.int .i64 t317, .int .i64 t318, .int .i64 t319, .int .i64 t320, .int .i64 t321]] rfl (by (try simp only [List.map_toArray, List.map_cons, List.map_nil]); first | done | rfl | (simp only [List.length_drop, List.length_take]; rfl)) ?_; (with_reducible refine (spec_GridOk.calls t317 t318 t319 t320 t321 false _ A13.out).mono ?_); rintro e w20 ⟨rfl, hb⟩; refine ⟨_, rfl, ?_⟩; have n0_ := Aside0.mk (Kd.R_below (by (with_reducible repeat (first | apply Kd.R_alloc | apply Kd.R_drewN | apply Kd.R_drew)); exact (Kd.R_mono (Kd.R_far (p := ⟨gb327, 4, none⟩) (Kd.R_far (p := ⟨gb327, 3, none⟩) (Kd.R_far (p := ⟨gb327, 2, none⟩) (Kd.R_far (p := ⟨gb327, 1, none⟩) (Kd.R_far (p := ⟨gb327, 0, none⟩) (Kd.R_types HO324.out BK327.out (by decide)) (fun _ hk => hk.2) (.int .i64 t317)) (fun _ hk => hk.2) (.int .i64 t318)) (fun _ hk => hk.2) (.int .i64 t319)) (fun _ hk => hk.2) (.int .i64 t320)) (fun _ hk => hk.2) (.int .i64 t321)) (fun _ h_ => h_.1))) hb); have n1_ := Aside0.mk (blk_below (g := gb327) (o := .cells #[.int .i64 t317, .int .i64 t318, .int .i64 t319, .int .i64 t320, .int .i64 t321] 43 (0, 0)) (by (with_reducible repeat (first | refine blk_drewN ?_ _ | refine blk_drew ?_ | refine blk_alloc ?_ _)); refine blk_put (cs := #[.int .i64 t317, .int .i64 t318, .int .i64 t319, .int .i64 t320, .int .i64 0]) ?_ 4 _ rfl; (with_reducible repeat (first | refine blk_drewN ?_ _ | refine blk_drew ?_ | refine blk_alloc ?_ _)); refine blk_put (cs := #[.int .i64 t317, .int .i64 t318, .int .i64 t319, .int .i64 0, .int .i64 0]) ?_ 3 _ rfl; (with_reducible repeat (first | refine blk_drewN ?_ _ | refine blk_drew ?_ | refine blk_alloc ?_ _)); refine blk_put (cs := #[.int .i64 t317, .int .i64 t318, .int .i64 0, .int .i64 0, .int .i64 0]) ?_ 2 _ rfl; (with_reducible repeat (first | refine blk_drewN ?_ _ | refine blk_drew ?_ | refine blk_alloc ?_ _)); refine blk_put (cs := #[.int .i64 t317, .int .i64 0, .int .i64 0, .int .i64 0, .int .i64 0]) ?_ 1 _ rfl; (with_reducible repeat (first | refine blk_drewN ?_ _ | refine blk_drew ?_ | refine blk_alloc ?_ _)); refine blk_put (cs := #[.int .i64 0, .int .i64 0, .int .i64 0, .int .i64 0, .int .i64 0]) ?_ 0 _ rfl; (with_reducible repeat (first | refine blk_drewN ?_ _ | refine blk_drew ?_ | refine blk_alloc ?_ _)); exact BK327.out) hb); have n2_ := Aside0.mk (below_step (by repeat (first | (with_reducible first | exact HB.out | apply below_alloc | apply pw_below_drewN | apply below_drew1 | refine below_set ?_ GE327.out) | exact HB.out)) hb); clear HO324; clear BK327; clear HB; have HO324 := n0_; have BK327 := n1_; have HB := n2_; clear n0_ n1_ n2_; (try clear hb); (try clear hb2); (try clear hk); (try clear hi)))
      go_meet
      case rel => exact ⟨_, (true), (by first | rfl | (simp; done) | (simp [*]; done)), H', ⟨by have := HJ2.out; first | omega | exact Nat.le_refl _⟩, ⟨by (with_reducible repeat (first | apply Kd.R_alloc | apply Kd.R_drewN | apply Kd.R_drew)); exact HO324.out⟩, ⟨by (with_reducible repeat (first | refine blk_drewN ?_ _ | refine blk_drew ?_ | refine blk_alloc ?_ _)); exact BK327.out⟩, ⟨by repeat (first | (with_reducible first | exact HB.out | apply below_alloc | apply pw_below_drewN | apply below_drew1 | refine below_set ?_ GE327.out) | exact HB.out)⟩⟩
    case rest =>
     clear HC9
     try clear c1
     try clear c2
     try clear p2
     try clear c3
     try clear c5
     try clear p6
     try clear c7
     try clear c14
     try clear hcz12_0
     try clear hcz12_1
     try clear hcz12_2
     try clear hcz12_3
     try clear hcz12_4
     try clear hcz15_0
     try clear hcz15_1
     try clear hcz15_2
     try clear hcz15_3
     try clear hcz15_4
     try clear hcz18_0
     try clear hcz18_1
     try clear hcz18_2
     try clear hcz18_3
     try clear hcz18_4
     try clear hcz19_0
     try clear hcz19_1
     try clear hcz19_2
     try clear hcz19_3
     try clear hcz19_4
     try clear hfz12_0
     try clear hfz12_1
     try clear hfz12_2
     try clear hfz12_3
     try clear hfz12_4
     try clear hfz15_0
     try clear hfz15_1
     try clear hfz15_2
     try clear hfz15_3
     try clear hfz15_4
     try clear hfz18_0
     try clear hfz18_1
     try clear hfz18_2
     try clear hfz18_3
     try clear hfz18_4
     try clear hfz19_0
     try clear hfz19_1
     try clear hfz19_2
     try clear hfz19_3
     try clear hfz19_4
     try clear p2
     obtain ⟨kq, x40_8, rfl, HA, HJ8, HO_6, BK327, HB⟩ := hcut
     cases kq with
     | zero => exact absurd HA.out (by simp [laws_FnAtPoints.j1])
     | succ kj8 =>
      have H := HA.out
      clear HA
      simp only [laws_FnAtPoints.j1] at H
      by_cases c21 : x40_8 = true
      ·subst c21
       have H1 : (some true) = some r := by rw [if_pos rfl] at H; exact H
       clear H
       have H := H1
       clear H1
       obtain rfl := Option.some.inj H
       go_wp2
       go_ret
       exact ⟨by first | rfl | (simp [errW_none, errW_some] <;> rfl) | (simp [*, errW_none, errW_some] <;> rfl), by repeat (first | (with_reducible first | exact HB.out | apply below_alloc | apply pw_below_drewN | apply below_drew1 | refine below_set ?_ GE327.out) | exact HB.out)⟩
      ·replace c21 := Bool.eq_false_iff.mpr c21
       subst c21
       have H1 : (if (wrap64 (t317 - 1)) = 0 then (none) else (if (wrap64 (t318 - 1)) = 0 then (none) else (laws_FnAtPoints.l0 kj8 t322 ((l1.length : Int) % (wrap64 (t317 - 1))) (Int.tmod (wrap64 ((l1.length : Int) / 7)) (wrap64 (t318 - 1))) 0 t317 t318 t319 t320 t321))) = some r := by rw [if_neg (show ¬ (false = true) by decide)] at H; exact H
       clear H
       have H := H1
       clear H1
       by_cases c22 : (wrap64 (t317 - 1)) = 0
       ·rw [if_pos c22] at H
        exact absurd H (by simp)
       ·rw [if_neg c22] at H
        have c22b0 : ((wrap64 (t317 - 1)) == 0) = false := beq_eq_false_iff_ne.mpr c22
        have c22b1 : ((wrap64 (t317 - 1)) != 0) = true := bne_iff_ne.mpr c22
        by_cases c23 : (wrap64 (t318 - 1)) = 0
        ·rw [if_pos c23] at H
         exact absurd H (by simp)
        ·rw [if_neg c23] at H
         have c23b0 : ((wrap64 (t318 - 1)) == 0) = false := beq_eq_false_iff_ne.mpr c23
         have c23b1 : ((wrap64 (t318 - 1)) != 0) = true := bne_iff_ne.mpr c23
         have H' := Aside0.mk H
         clear H
         have hcz24_0 : wc.cell? ⟨gb327, 0, none⟩ = some (.int .i64 t317) := (blk_cell BK327.out 0).trans rfl
         have hcz24_1 : wc.cell? ⟨gb327, 1, none⟩ = some (.int .i64 t318) := (blk_cell BK327.out 1).trans rfl
         have hcz24_2 : wc.cell? ⟨gb327, 2, none⟩ = some (.int .i64 t319) := (blk_cell BK327.out 2).trans rfl
         have hcz24_3 : wc.cell? ⟨gb327, 3, none⟩ = some (.int .i64 t320) := (blk_cell BK327.out 3).trans rfl
         have hcz24_4 : wc.cell? ⟨gb327, 4, none⟩ = some (.int .i64 t321) := (blk_cell BK327.out 4).trans rfl
         have hfz24_0 := blk_frozen BK327.out 0
         have hfz24_1 := blk_frozen BK327.out 1
         have hfz24_2 := blk_frozen BK327.out 2
         have hfz24_3 := blk_frozen BK327.out 3
         have hfz24_4 := blk_frozen BK327.out 4
         go_wp2
         go_loopg [11] kj8 (fun kq v11 w' => ∃ (x11_3 : Int), v11 = .int .i64 x11_3 ∧ Aside0 (laws_FnAtPoints.l0 kq t322 ((l1.length : Int) % (wrap64 (t317 - 1))) (Int.tmod (wrap64 ((l1.length : Int) / 7)) (wrap64 (t318 - 1))) x11_3 t317 t318 t319 t320 t321 = some r) ∧ Aside0 (kq ≤ kj8) ∧ Aside0 (Kd.R Kd.flt 33 w' w.heap.size (fun _ => True) v323 t322) ∧ Aside0 (w'.heap[gb327]? = some (.cells #[.int .i64 t317, .int .i64 t318, .int .i64 t319, .int .i64 t320, .int .i64 t321] 43 (0, 0))) ∧ Aside0 (Below w.heap.size w w'))
         case atStart => exact ⟨(0), (by first | rfl | (simp; done) | (simp [*]; done)), H', ⟨Nat.le_refl _⟩, ⟨by (with_reducible repeat (first | apply Kd.R_alloc | apply Kd.R_drewN | apply Kd.R_drew)); exact HO_6.out⟩, ⟨by (with_reducible repeat (first | refine blk_drewN ?_ _ | refine blk_drew ?_ | refine blk_alloc ?_ _)); exact BK327.out⟩, ⟨by repeat (first | (with_reducible first | exact HB.out | apply below_alloc | apply pw_below_drewN | apply below_drew1 | refine below_set ?_ GE327.out) | exact HB.out)⟩⟩
         case round =>
          clear H'
          try clear c1
          try clear c2
          try clear p2
          try clear c3
          try clear c5
          try clear p6
          try clear c7
          try clear c14
          try clear c21
          try clear c22
          try clear c22b0
          try clear c22b1
          try clear c23
          try clear c23b0
          try clear c23b1
          try clear hcz12_0
          try clear hcz12_1
          try clear hcz12_2
          try clear hcz12_3
          try clear hcz12_4
          try clear hcz15_0
          try clear hcz15_1
          try clear hcz15_2
          try clear hcz15_3
          try clear hcz15_4
          try clear hcz18_0
          try clear hcz18_1
          try clear hcz18_2
          try clear hcz18_3
          try clear hcz18_4
          try clear hcz19_0
          try clear hcz19_1
          try clear hcz19_2
          try clear hcz19_3
          try clear hcz19_4
          try clear hcz24_0
          try clear hcz24_1
          try clear hcz24_2
          try clear hcz24_3
          try clear hcz24_4
          try clear hfz12_0
          try clear hfz12_1
          try clear hfz12_2
          try clear hfz12_3
          try clear hfz12_4
          try clear hfz15_0
          try clear hfz15_1
          try clear hfz15_2
          try clear hfz15_3
          try clear hfz15_4
          try clear hfz18_0
          try clear hfz18_1
          try clear hfz18_2
          try clear hfz18_3
          try clear hfz18_4
          try clear hfz19_0
          try clear hfz19_1
          try clear hfz19_2
          try clear hfz19_3
          try clear hfz19_4
          try clear hfz24_0
          try clear hfz24_1
          try clear hfz24_2
          try clear hfz24_3
          try clear hfz24_4
          try clear p2
          try clear p6
          obtain ⟨x11_3, rfl, HA, HK3, HO_6, BK327, HB⟩ := hrel
          cases gk with
          | zero => exact absurd HA.out (by simp [laws_FnAtPoints.l0])
          | succ k3 =>
           have H := HA.out
           clear HA
           simp only [laws_FnAtPoints.l0] at H
           by_cases c25 : x11_3 < 4
           ·rw [if_pos c25] at H
            have c25b0 : decide (x11_3 < 4) = true := decide_eq_true c25
            clear c25
            obtain ⟨ji26, hji26⟩ : ∃ j_ : Int, (wrap64 ((wrap64 ((wrap64 ((wrap64 (((l1.length : Int) % (wrap64 (t317 - 1))) + (wrap64 (Int.tdiv x11_3 2)))) * t318)) + (Int.tmod (wrap64 ((l1.length : Int) / 7)) (wrap64 (t318 - 1))))) + (Int.tmod x11_3 2))) = j_ := ⟨_, rfl⟩
            replace H : (if 0 ≤ (ji26) then (if (ji26) < (t322.length : Int) then (if (fgt (rd_F t322 (ji26)) 9094988921128908188) = true then (some true) else (if (flt (rd_F t322 (ji26)) 18318360957983683996) = true then (some true) else (laws_FnAtPoints.l0 k3 t322 ((l1.length : Int) % (wrap64 (t317 - 1))) (Int.tmod (wrap64 ((l1.length : Int) / 7)) (wrap64 (t318 - 1))) (wrap64 (x11_3 + 1)) t317 t318 t319 t320 t321))) else (none)) else (none)) = some r := by first | (rw [hji26] at H; exact H) | (simp only [hji26] at H ⊢; exact H)
            have hji26w : (IntKind.i64.wrap ((wrap64 ((wrap64 ((wrap64 (((l1.length : Int) % (wrap64 (t317 - 1))) + (wrap64 (Int.tdiv x11_3 2)))) * t318)) + (Int.tmod (wrap64 ((l1.length : Int) / 7)) (wrap64 (t318 - 1))))) + (Int.tmod x11_3 2))) = ji26 := (i64_w _).trans hji26
            by_cases c27 : 0 ≤ (ji26)
            ·rw [if_pos c27] at H
             have c27b0 : decide (0 ≤ (ji26)) = true := decide_eq_true c27
             clear c27
             by_cases c28 : (ji26) < (t322.length : Int)
             ·rw [if_pos c28] at H
              have c28b0 : decide ((ji26) < (t322.length : Int)) = true := decide_eq_true c28
              clear c28
              by_cases c29 : (fgt (rd_F t322 (ji26)) 9094988921128908188) = true
              ·rw [if_pos c29] at H
               have c29b0 : (fgt (rd_F t322 (ji26)) 9094988921128908188) = true := c29
               clear c29
               obtain rfl := Option.some.inj H
               have hcz30_0 : wr.cell? ⟨gb327, 0, none⟩ = some (.int .i64 t317) := (blk_cell BK327.out 0).trans rfl
               have hcz30_1 : wr.cell? ⟨gb327, 1, none⟩ = some (.int .i64 t318) := (blk_cell BK327.out 1).trans rfl
               have hcz30_2 : wr.cell? ⟨gb327, 2, none⟩ = some (.int .i64 t319) := (blk_cell BK327.out 2).trans rfl
               have hcz30_3 : wr.cell? ⟨gb327, 3, none⟩ = some (.int .i64 t320) := (blk_cell BK327.out 3).trans rfl
               have hcz30_4 : wr.cell? ⟨gb327, 4, none⟩ = some (.int .i64 t321) := (blk_cell BK327.out 4).trans rfl
               have hfz30_0 := blk_frozen BK327.out 0
               have hfz30_1 := blk_frozen BK327.out 1
               have hfz30_2 := blk_frozen BK327.out 2
               have hfz30_3 := blk_frozen BK327.out 3
               have hfz30_4 := blk_frozen BK327.out 4
               obtain ⟨Ao31, co31, eo31⟩ := Kd.R_slice HO_6.out
               subst eo31
               have p329 : 0 ≤ ((ji26) : Int) := of_decide_eq_true (by first | (with_reducible assumption) | assumption)
               have q329 : (ji26) < (t322.length : Int) := of_decide_eq_true (by first | (with_reducible assumption) | assumption)
               obtain ⟨ad329, pf329_0, e329, hx329_0⟩ := at_F (Kd.R_reads' HO_6.out).2.2 (ji26) p329 q329
               cases e329
               replace p329 := eq_true p329
               replace q329 := eq_true q329
               go_wp2
               go_ret
               exact ⟨by first | rfl | (simp [errW_none, errW_some] <;> rfl) | (simp only [← hji26]; first | rfl | (simp [errW_none, errW_some] <;> rfl)) | (simp [*, errW_none, errW_some] <;> rfl), by repeat (first | (with_reducible first | exact HB.out | apply below_alloc | apply pw_below_drewN | apply below_drew1 | refine below_set ?_ GE327.out) | exact HB.out)⟩
              ·rw [if_neg c29] at H
               have c29b0 : (fgt (rd_F t322 (ji26)) 9094988921128908188) = false := by simpa using c29
               clear c29
               by_cases c32 : (flt (rd_F t322 (ji26)) 18318360957983683996) = true
               ·rw [if_pos c32] at H
                have c32b0 : (flt (rd_F t322 (ji26)) 18318360957983683996) = true := c32
                clear c32
                obtain rfl := Option.some.inj H
                have hcz33_0 : wr.cell? ⟨gb327, 0, none⟩ = some (.int .i64 t317) := (blk_cell BK327.out 0).trans rfl
                have hcz33_1 : wr.cell? ⟨gb327, 1, none⟩ = some (.int .i64 t318) := (blk_cell BK327.out 1).trans rfl
                have hcz33_2 : wr.cell? ⟨gb327, 2, none⟩ = some (.int .i64 t319) := (blk_cell BK327.out 2).trans rfl
                have hcz33_3 : wr.cell? ⟨gb327, 3, none⟩ = some (.int .i64 t320) := (blk_cell BK327.out 3).trans rfl
                have hcz33_4 : wr.cell? ⟨gb327, 4, none⟩ = some (.int .i64 t321) := (blk_cell BK327.out 4).trans rfl
                have hfz33_0 := blk_frozen BK327.out 0
                have hfz33_1 := blk_frozen BK327.out 1
                have hfz33_2 := blk_frozen BK327.out 2
                have hfz33_3 := blk_frozen BK327.out 3
                have hfz33_4 := blk_frozen BK327.out 4
                obtain ⟨Ao34, co34, eo34⟩ := Kd.R_slice HO_6.out
                subst eo34
                have p329 : 0 ≤ ((ji26) : Int) := of_decide_eq_true (by first | (with_reducible assumption) | assumption)
                have q329 : (ji26) < (t322.length : Int) := of_decide_eq_true (by first | (with_reducible assumption) | assumption)
                obtain ⟨ad329, pf329_0, e329, hx329_0⟩ := at_F (Kd.R_reads' HO_6.out).2.2 (ji26) p329 q329
                cases e329
                replace p329 := eq_true p329
                replace q329 := eq_true q329
                go_wp2
                go_ret
                exact ⟨by first | rfl | (simp [errW_none, errW_some] <;> rfl) | (simp only [← hji26]; first | rfl | (simp [errW_none, errW_some] <;> rfl)) | (simp [*, errW_none, errW_some] <;> rfl), by repeat (first | (with_reducible first | exact HB.out | apply below_alloc | apply pw_below_drewN | apply below_drew1 | refine below_set ?_ GE327.out) | exact HB.out)⟩
               ·rw [if_neg c32] at H
                have c32b0 : (flt (rd_F t322 (ji26)) 18318360957983683996) = false := by simpa using c32
                clear c32
                have H' := Aside0.mk H
                clear H
                have hcz35_0 : wr.cell? ⟨gb327, 0, none⟩ = some (.int .i64 t317) := (blk_cell BK327.out 0).trans rfl
                have hcz35_1 : wr.cell? ⟨gb327, 1, none⟩ = some (.int .i64 t318) := (blk_cell BK327.out 1).trans rfl
                have hcz35_2 : wr.cell? ⟨gb327, 2, none⟩ = some (.int .i64 t319) := (blk_cell BK327.out 2).trans rfl
                have hcz35_3 : wr.cell? ⟨gb327, 3, none⟩ = some (.int .i64 t320) := (blk_cell BK327.out 3).trans rfl
                have hcz35_4 : wr.cell? ⟨gb327, 4, none⟩ = some (.int .i64 t321) := (blk_cell BK327.out 4).trans rfl
                have hfz35_0 := blk_frozen BK327.out 0
                have hfz35_1 := blk_frozen BK327.out 1
                have hfz35_2 := blk_frozen BK327.out 2
                have hfz35_3 := blk_frozen BK327.out 3
                have hfz35_4 := blk_frozen BK327.out 4
                obtain ⟨Ao36, co36, eo36⟩ := Kd.R_slice HO_6.out
                subst eo36
                have p329 : 0 ≤ ((ji26) : Int) := of_decide_eq_true (by first | (with_reducible assumption) | assumption)
                have q329 : (ji26) < (t322.length : Int) := of_decide_eq_true (by first | (with_reducible assumption) | assumption)
                obtain ⟨ad329, pf329_0, e329, hx329_0⟩ := at_F (Kd.R_reads' HO_6.out).2.2 (ji26) p329 q329
                cases e329
                replace p329 := eq_true p329
                replace q329 := eq_true q329
                go_wp2
                go_roundg k3
                case measure => have := HJ2.out; have := HJ8.out; have := HK3.out; omega
                case rel => exact ⟨(wrap64 (x11_3 + 1)), (by first | rfl | (simp; done) | (simp [*]; done)), H', ⟨by have := HJ2.out; have := HJ8.out; have := HK3.out; omega⟩, ⟨by (with_reducible repeat (first | apply Kd.R_alloc | apply Kd.R_drewN | apply Kd.R_drew)); exact HO_6.out⟩, ⟨by (with_reducible repeat (first | refine blk_drewN ?_ _ | refine blk_drew ?_ | refine blk_alloc ?_ _)); exact BK327.out⟩, ⟨by repeat (first | (with_reducible first | exact HB.out | apply below_alloc | apply pw_below_drewN | apply below_drew1 | refine below_set ?_ GE327.out) | exact HB.out)⟩⟩
             ·rw [if_neg c28] at H
              exact absurd H (by simp)
            ·rw [if_neg c27] at H
             exact absurd H (by simp)
           ·rw [if_neg c25] at H
            have c25b0 : decide (x11_3 < 4) = false := decide_eq_false c25
            clear c25
            obtain ⟨ji37, hji37⟩ : ∃ j_ : Int, (wrap64 ((wrap64 (((l1.length : Int) % (wrap64 (t317 - 1))) * t318)) + (Int.tmod (wrap64 ((l1.length : Int) / 7)) (wrap64 (t318 - 1))))) = j_ := ⟨_, rfl⟩
            replace H : (if 0 ≤ (ji37) then (if (ji37) < (t322.length : Int) then ((impl_At.f k3 t317 t318 t319 t320 t321 t322 (wrap64 (t319 + (wrap64 (((l1.length : Int) % (wrap64 (t317 - 1))) * t321)))) (wrap64 (t320 + (wrap64 ((Int.tmod (wrap64 ((l1.length : Int) / 7)) (wrap64 (t318 - 1))) * t321))))).bind fun t331 => (if (feq (rd_F t322 (ji37)) t331) = true then (some true) else (if (fne (rd_F t322 (ji37)) (rd_F t322 (ji37))) = true then (some (fne t331 t331)) else (some false)))) else (none)) else (none)) = some r := by first | (rw [hji37] at H; exact H) | (simp only [hji37] at H ⊢; exact H)
            have hji37w : (IntKind.i64.wrap ((wrap64 (((l1.length : Int) % (wrap64 (t317 - 1))) * t318)) + (Int.tmod (wrap64 ((l1.length : Int) / 7)) (wrap64 (t318 - 1))))) = ji37 := (i64_w _).trans hji37
            by_cases c38 : 0 ≤ (ji37)
            ·rw [if_pos c38] at H
             have c38b0 : decide (0 ≤ (ji37)) = true := decide_eq_true c38
             clear c38
             by_cases c39 : (ji37) < (t322.length : Int)
             ·rw [if_pos c39] at H
              have c39b0 : decide ((ji37) < (t322.length : Int)) = true := decide_eq_true c39
              clear c39
              replace H := Option.bind_eq_some_iff.mp H
              obtain ⟨t331, A400, H⟩ := H
              replace H : (if (feq (rd_F t322 (ji37)) t331) = true then (some true) else (if (fne (rd_F t322 (ji37)) (rd_F t322 (ji37))) = true then (some (fne t331 t331)) else (some false))) = some r := H
              have A40 := Aside0.mk A400
              clear A400
              by_cases c41 : (feq (rd_F t322 (ji37)) t331) = true
              ·rw [if_pos c41] at H
               have c41b0 : (feq (rd_F t322 (ji37)) t331) = true := c41
               clear c41
               obtain rfl := Option.some.inj H
               have hcz42_0 : wr.cell? ⟨gb327, 0, none⟩ = some (.int .i64 t317) := (blk_cell BK327.out 0).trans rfl
               have hcz42_1 : wr.cell? ⟨gb327, 1, none⟩ = some (.int .i64 t318) := (blk_cell BK327.out 1).trans rfl
               have hcz42_2 : wr.cell? ⟨gb327, 2, none⟩ = some (.int .i64 t319) := (blk_cell BK327.out 2).trans rfl
               have hcz42_3 : wr.cell? ⟨gb327, 3, none⟩ = some (.int .i64 t320) := (blk_cell BK327.out 3).trans rfl
               have hcz42_4 : wr.cell? ⟨gb327, 4, none⟩ = some (.int .i64 t321) := (blk_cell BK327.out 4).trans rfl
               have hfz42_0 := blk_frozen BK327.out 0
               have hfz42_1 := blk_frozen BK327.out 1
               have hfz42_2 := blk_frozen BK327.out 2
               have hfz42_3 := blk_frozen BK327.out 3
               have hfz42_4 := blk_frozen BK327.out 4
               obtain ⟨Ao43, co43, eo43⟩ := Kd.R_slice HO_6.out
               subst eo43
               have p330 : 0 ≤ ((ji37) : Int) := of_decide_eq_true (by first | (with_reducible assumption) | assumption)
               have q330 : (ji37) < (t322.length : Int) := of_decide_eq_true (by first | (with_reducible assumption) | assumption)
               obtain ⟨ad330, pf330_0, e330, hx330_0⟩ := at_F (Kd.R_reads' HO_6.out).2.2 (ji37) p330 q330
               cases e330
               replace p330 := eq_true p330
               replace q330 := eq_true q330
               go_wp2_with (first | ((with_reducible refine gate_callee (f := 26) rfl ?_); refine goesL_ (some 104) rfl rfl Try.func26 (by kernel_rfl) rfl #[.agg #[.int .i64 t317, .int .i64 t318, .int .i64 t319, .int .i64 t320, .int .i64 t321], .slice (some ad330) t322.length co43, .int .i64 (wrap64 (t319 + (wrap64 (((l1.length : Int) % (wrap64 (t317 - 1))) * t321)))), .int .i64 (wrap64 (t320 + (wrap64 ((Int.tmod (wrap64 ((l1.length : Int) / 7)) (wrap64 (t318 - 1))) * t321))))] rfl (by (try simp only [List.map_toArray, List.map_cons, List.map_nil]); first | done | rfl | (simp only [List.length_drop, List.length_take]; rfl)) ?_; (with_reducible refine (impl_At.calls k3 t317 t318 t319 t320 t321 _ _ t322 (wrap64 (t319 + (wrap64 (((l1.length : Int) % (wrap64 (t317 - 1))) * t321)))) (wrap64 (t320 + (wrap64 ((Int.tmod (wrap64 ((l1.length : Int) / 7)) (wrap64 (t318 - 1))) * t321)))) t331 _ ?side1 ?side2 A40.out).mono ?_); (case side1 => repeat (first | exact (Kd.R_reads' HO_6.out).2.2 | (with_reducible refine Kd.C_alloc ?_ _) | (with_reducible refine Kd.C_drewN ?_ _) | (with_reducible refine Kd.C_drew ?_))); (case side2 => exact (Kd.R_reads' HO_6.out).2.1); rintro e w44 ⟨pr332, rfl, hb⟩; refine ⟨_, rfl, ?_⟩; have n0_ := Aside0.mk (Kd.R_below (by (with_reducible repeat (first | apply Kd.R_alloc | apply Kd.R_drewN | apply Kd.R_drew)); exact HO_6.out) hb); have n1_ := Aside0.mk (blk_below (g := gb327) (o := .cells #[.int .i64 t317, .int .i64 t318, .int .i64 t319, .int .i64 t320, .int .i64 t321] 43 (0, 0)) (by (with_reducible repeat (first | refine blk_drewN ?_ _ | refine blk_drew ?_ | refine blk_alloc ?_ _)); exact BK327.out) hb); have n2_ := Aside0.mk (below_step (by repeat (first | (with_reducible first | exact HB.out | apply below_alloc | apply pw_below_drewN | apply below_drew1 | refine below_set ?_ GE327.out) | exact HB.out)) hb); clear HO_6; clear BK327; clear HB; have HO_6 := n0_; have BK327 := n1_; have HB := n2_; clear n0_ n1_ n2_; (try clear hb); (try clear hb2); (try clear hk); (try clear hi)))
               go_ret
               exact ⟨by first | rfl | (simp [errW_none, errW_some] <;> rfl) | (simp only [← hji37]; first | rfl | (simp [errW_none, errW_some] <;> rfl)) | (simp [*, errW_none, errW_some] <;> rfl), by repeat (first | (with_reducible first | exact HB.out | apply below_alloc | apply pw_below_drewN | apply below_drew1 | refine below_set ?_ GE327.out) | exact HB.out)⟩
              ·rw [if_neg c41] at H
               have c41b0 : (feq (rd_F t322 (ji37)) t331) = false := by simpa using c41
               clear c41
               by_cases c45 : (fne (rd_F t322 (ji37)) (rd_F t322 (ji37))) = true
               ·rw [if_pos c45] at H
                have c45b0 : (fne (rd_F t322 (ji37)) (rd_F t322 (ji37))) = true := c45
                clear c45
                obtain rfl := Option.some.inj H
                have hcz46_0 : wr.cell? ⟨gb327, 0, none⟩ = some (.int .i64 t317) := (blk_cell BK327.out 0).trans rfl
                have hcz46_1 : wr.cell? ⟨gb327, 1, none⟩ = some (.int .i64 t318) := (blk_cell BK327.out 1).trans rfl
                have hcz46_2 : wr.cell? ⟨gb327, 2, none⟩ = some (.int .i64 t319) := (blk_cell BK327.out 2).trans rfl
                have hcz46_3 : wr.cell? ⟨gb327, 3, none⟩ = some (.int .i64 t320) := (blk_cell BK327.out 3).trans rfl
                have hcz46_4 : wr.cell? ⟨gb327, 4, none⟩ = some (.int .i64 t321) := (blk_cell BK327.out 4).trans rfl
                have hfz46_0 := blk_frozen BK327.out 0
                have hfz46_1 := blk_frozen BK327.out 1
                have hfz46_2 := blk_frozen BK327.out 2
                have hfz46_3 := blk_frozen BK327.out 3
                have hfz46_4 := blk_frozen BK327.out 4
                obtain ⟨Ao47, co47, eo47⟩ := Kd.R_slice HO_6.out
                subst eo47
                have p330 : 0 ≤ ((ji37) : Int) := of_decide_eq_true (by first | (with_reducible assumption) | assumption)
                have q330 : (ji37) < (t322.length : Int) := of_decide_eq_true (by first | (with_reducible assumption) | assumption)
                obtain ⟨ad330, pf330_0, e330, hx330_0⟩ := at_F (Kd.R_reads' HO_6.out).2.2 (ji37) p330 q330
                cases e330
                replace p330 := eq_true p330
                replace q330 := eq_true q330
                go_wp2_with (first | ((with_reducible refine gate_callee (f := 26) rfl ?_); refine goesL_ (some 104) rfl rfl Try.func26 (by kernel_rfl) rfl #[.agg #[.int .i64 t317, .int .i64 t318, .int .i64 t319, .int .i64 t320, .int .i64 t321], .slice (some ad330) t322.length co47, .int .i64 (wrap64 (t319 + (wrap64 (((l1.length : Int) % (wrap64 (t317 - 1))) * t321)))), .int .i64 (wrap64 (t320 + (wrap64 ((Int.tmod (wrap64 ((l1.length : Int) / 7)) (wrap64 (t318 - 1))) * t321))))] rfl (by (try simp only [List.map_toArray, List.map_cons, List.map_nil]); first | done | rfl | (simp only [List.length_drop, List.length_take]; rfl)) ?_; (with_reducible refine (impl_At.calls k3 t317 t318 t319 t320 t321 _ _ t322 (wrap64 (t319 + (wrap64 (((l1.length : Int) % (wrap64 (t317 - 1))) * t321)))) (wrap64 (t320 + (wrap64 ((Int.tmod (wrap64 ((l1.length : Int) / 7)) (wrap64 (t318 - 1))) * t321)))) t331 _ ?side1 ?side2 A40.out).mono ?_); (case side1 => repeat (first | exact (Kd.R_reads' HO_6.out).2.2 | (with_reducible refine Kd.C_alloc ?_ _) | (with_reducible refine Kd.C_drewN ?_ _) | (with_reducible refine Kd.C_drew ?_))); (case side2 => exact (Kd.R_reads' HO_6.out).2.1); rintro e w48 ⟨pr332, rfl, hb⟩; refine ⟨_, rfl, ?_⟩; have n0_ := Aside0.mk (Kd.R_below (by (with_reducible repeat (first | apply Kd.R_alloc | apply Kd.R_drewN | apply Kd.R_drew)); exact HO_6.out) hb); have n1_ := Aside0.mk (blk_below (g := gb327) (o := .cells #[.int .i64 t317, .int .i64 t318, .int .i64 t319, .int .i64 t320, .int .i64 t321] 43 (0, 0)) (by (with_reducible repeat (first | refine blk_drewN ?_ _ | refine blk_drew ?_ | refine blk_alloc ?_ _)); exact BK327.out) hb); have n2_ := Aside0.mk (below_step (by repeat (first | (with_reducible first | exact HB.out | apply below_alloc | apply pw_below_drewN | apply below_drew1 | refine below_set ?_ GE327.out) | exact HB.out)) hb); clear HO_6; clear BK327; clear HB; have HO_6 := n0_; have BK327 := n1_; have HB := n2_; clear n0_ n1_ n2_; (try clear hb); (try clear hb2); (try clear hk); (try clear hi)))
                go_ret
                exact ⟨by first | rfl | (simp [errW_none, errW_some] <;> rfl) | (simp only [← hji37]; first | rfl | (simp [errW_none, errW_some] <;> rfl)) | (simp [*, errW_none, errW_some] <;> rfl), by repeat (first | (with_reducible first | exact HB.out | apply below_alloc | apply pw_below_drewN | apply below_drew1 | refine below_set ?_ GE327.out) | exact HB.out)⟩
               ·rw [if_neg c45] at H
                have c45b0 : (fne (rd_F t322 (ji37)) (rd_F t322 (ji37))) = false := by simpa using c45
                clear c45
                obtain rfl := Option.some.inj H
                have hcz49_0 : wr.cell? ⟨gb327, 0, none⟩ = some (.int .i64 t317) := (blk_cell BK327.out 0).trans rfl
                have hcz49_1 : wr.cell? ⟨gb327, 1, none⟩ = some (.int .i64 t318) := (blk_cell BK327.out 1).trans rfl
                have hcz49_2 : wr.cell? ⟨gb327, 2, none⟩ = some (.int .i64 t319) := (blk_cell BK327.out 2).trans rfl
                have hcz49_3 : wr.cell? ⟨gb327, 3, none⟩ = some (.int .i64 t320) := (blk_cell BK327.out 3).trans rfl
                have hcz49_4 : wr.cell? ⟨gb327, 4, none⟩ = some (.int .i64 t321) := (blk_cell BK327.out 4).trans rfl
                have hfz49_0 := blk_frozen BK327.out 0
                have hfz49_1 := blk_frozen BK327.out 1
                have hfz49_2 := blk_frozen BK327.out 2
                have hfz49_3 := blk_frozen BK327.out 3
                have hfz49_4 := blk_frozen BK327.out 4
                obtain ⟨Ao50, co50, eo50⟩ := Kd.R_slice HO_6.out
                subst eo50
                have p330 : 0 ≤ ((ji37) : Int) := of_decide_eq_true (by first | (with_reducible assumption) | assumption)
                have q330 : (ji37) < (t322.length : Int) := of_decide_eq_true (by first | (with_reducible assumption) | assumption)
                obtain ⟨ad330, pf330_0, e330, hx330_0⟩ := at_F (Kd.R_reads' HO_6.out).2.2 (ji37) p330 q330
                cases e330
                replace p330 := eq_true p330
                replace q330 := eq_true q330
                go_wp2_with (first | ((with_reducible refine gate_callee (f := 26) rfl ?_); refine goesL_ (some 104) rfl rfl Try.func26 (by kernel_rfl) rfl #[.agg #[.int .i64 t317, .int .i64 t318, .int .i64 t319, .int .i64 t320, .int .i64 t321], .slice (some ad330) t322.length co50, .int .i64 (wrap64 (t319 + (wrap64 (((l1.length : Int) % (wrap64 (t317 - 1))) * t321)))), .int .i64 (wrap64 (t320 + (wrap64 ((Int.tmod (wrap64 ((l1.length : Int) / 7)) (wrap64 (t318 - 1))) * t321))))] rfl (by (try simp only [List.map_toArray, List.map_cons, List.map_nil]); first | done | rfl | (simp only [List.length_drop, List.length_take]; rfl)) ?_; (with_reducible refine (impl_At.calls k3 t317 t318 t319 t320 t321 _ _ t322 (wrap64 (t319 + (wrap64 (((l1.length : Int) % (wrap64 (t317 - 1))) * t321)))) (wrap64 (t320 + (wrap64 ((Int.tmod (wrap64 ((l1.length : Int) / 7)) (wrap64 (t318 - 1))) * t321)))) t331 _ ?side1 ?side2 A40.out).mono ?_); (case side1 => repeat (first | exact (Kd.R_reads' HO_6.out).2.2 | (with_reducible refine Kd.C_alloc ?_ _) | (with_reducible refine Kd.C_drewN ?_ _) | (with_reducible refine Kd.C_drew ?_))); (case side2 => exact (Kd.R_reads' HO_6.out).2.1); rintro e w51 ⟨pr332, rfl, hb⟩; refine ⟨_, rfl, ?_⟩; have n0_ := Aside0.mk (Kd.R_below (by (with_reducible repeat (first | apply Kd.R_alloc | apply Kd.R_drewN | apply Kd.R_drew)); exact HO_6.out) hb); have n1_ := Aside0.mk (blk_below (g := gb327) (o := .cells #[.int .i64 t317, .int .i64 t318, .int .i64 t319, .int .i64 t320, .int .i64 t321] 43 (0, 0)) (by (with_reducible repeat (first | refine blk_drewN ?_ _ | refine blk_drew ?_ | refine blk_alloc ?_ _)); exact BK327.out) hb); have n2_ := Aside0.mk (below_step (by repeat (first | (with_reducible first | exact HB.out | apply below_alloc | apply pw_below_drewN | apply below_drew1 | refine below_set ?_ GE327.out) | exact HB.out)) hb); clear HO_6; clear BK327; clear HB; have HO_6 := n0_; have BK327 := n1_; have HB := n2_; clear n0_ n1_ n2_; (try clear hb); (try clear hb2); (try clear hk); (try clear hi)))
                go_ret
                exact ⟨by first | rfl | (simp [errW_none, errW_some] <;> rfl) | (simp only [← hji37]; first | rfl | (simp [errW_none, errW_some] <;> rfl)) | (simp [*, errW_none, errW_some] <;> rfl), by repeat (first | (with_reducible first | exact HB.out | apply below_alloc | apply pw_below_drewN | apply below_drew1 | refine below_set ?_ GE327.out) | exact HB.out)⟩
             ·rw [if_neg c39] at H
              exact absurd H (by simp)
            ·rw [if_neg c38] at H
             exact absurd H (by simp)

/-- THE ONE PURE STATEMENT of laws_FnAtPoints: yours. -/
def laws_FnAtPoints.Pure : Prop := ∀ (l0 : List Int) (l1 : List Int), l0.length ≤ maxLen → l0.length * 1 ≤ 140737488351232 → (∀ x ∈ l0, (Lit.int .u8 x).wf = true) → l1.length ≤ maxLen → l1.length * 1 ≤ 140737488351232 → (∀ x ∈ l1, (Lit.int .u8 x).wf = true) → ∃ k, laws_FnAtPoints.f k l0 l1 = some true
theorem laws_FnAtPoints.walk (P : laws_FnAtPoints.Pure) (a0 : Option Addr) (len0 cap0 : Nat) (z0 : List Int) (a1 : Option Addr) (len1 cap1 : Nat) (z1 : List Int) (w : World) (w0 : (a0 = none ∧ len0 = 0 ∧ cap0 = 0 ∧ z0 = []) ∨ ∃ x, a0 = some x ∧ len0 ≤ cap0 ∧ cap0 ≤ maxLen ∧ z0.length = cap0 ∧ (∀ i, i < z0.length → w.cell? (x.add i) = some (.int .u8 (z0.getD i 0))) ∧ ∀ n ∈ z0, (Lit.int .u8 n).wf = true) (y0 : len0 * 1 ≤ 140737488351232) (w1 : (a1 = none ∧ len1 = 0 ∧ cap1 = 0 ∧ z1 = []) ∨ ∃ x, a1 = some x ∧ len1 ≤ cap1 ∧ cap1 ≤ maxLen ∧ z1.length = cap1 ∧ (∀ i, i < z1.length → w.cell? (x.add i) = some (.int .u8 (z1.getD i 0))) ∧ ∀ n ∈ z1, (Lit.int .u8 n).wf = true) (y1 : len1 * 1 ≤ 140737488351232) :
  Calls Try.prog 7 #[.slice a0 len0 cap0, .slice a1 len1 cap1] w fun e w' => e = .returned (.bool true) ∧ Below w.heap.size w w' := by
 obtain ⟨l0, rfl, hr0, hm0, hw0, hc0⟩ := ReadsInt.ofRowC w0
 obtain ⟨l1, rfl, hr1, hm1, hw1, hc1⟩ := ReadsInt.ofRowC w1
 obtain ⟨k, h⟩ := P l0 l1 hm0 y0 hw0 hm1 y1 hw1
 refine (laws_FnAtPoints.calls k _ _ l0 _ _ l1 true w (Kd.C_of_reads (d := (0 : Int)) (h1 := fun _ => rfl) hr0) hc0 (Kd.C_of_reads (d := (0 : Int)) (h1 := fun _ => rfl) hr1) hc1 h).mono ?_
 rintro e w' ⟨rfl, hd⟩
 exact ⟨rfl, hd⟩

end Go.Proofs.Ytaophbkedbphnaa.Q
