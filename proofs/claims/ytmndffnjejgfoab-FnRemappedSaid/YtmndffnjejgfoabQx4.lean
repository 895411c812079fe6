/- Plain Lean functions with the same answers as the Go functions of this seat, and a proof for each that the Go code comes to just these answers; no condition. Written by a program of this session (the kit's printer, turned). -/
import Derived.Test.YtmndffnjejgfoabQx0
import Derived.Test.YtmndffnjejgfoabQx1
import Derived.Test.YtmndffnjejgfoabQx2
import Derived.Test.YtmndffnjejgfoabQx3
namespace Go.Proofs.Ytmndffnjejgfoab.Q
open Go.RowKit Go.Proofs.YtmndffnjejgfoabW.PrintWords Go.Proofs.YtmndffnjejgfoabW.PrintLast Go.Proofs.YtmndffnjejgfoabW.PrintMore Go.Proofs.YtmndffnjejgfoabW.PrintFlt
attribute [local go_sem] cmp_lss cmp_leq cmp_gtr cmp_geq cmp_eql cmp_neq flt_l flt_r fgt_l fgt_r feq_l feq_r fne_l fne_r ord_lt ord_gt ord_eq ord_ne conv_int foi_fold run_store_flt
attribute [local go_sem] max2_int min2_int max_two min_two max_three min_three max_four min_four   -- for this text's walks alone
set_option linter.unusedVariables false
set_option linter.unusedSimpArgs false

/-! ### spec_Remap: function 13 -/
mutual
def spec_Remap.j0 : Nat → List Int → List Int → List Int → List Int → Bool → Option (List Int × Bool)
 | 0, _, _, _, _, _ => none
 | k + 1, x0, x1, x2, x8, x27 => if x27 = true then (some (x8, false)) else (spec_Remap.l0 k x0 x1 x2 x8 0)
def spec_Remap.l0 : Nat → List Int → List Int → List Int → List Int → Int → Option (List Int × Bool)
 | 0, _, _, _, _, _ => none
 | k + 1, x0, x1, x2, x8, x9 => if x9 < (x1.length : Int) then (if 0 ≤ x9 then ((spec_l2In.f (rd x1 x9) 0 1000000000000).bind fun t118 => (if t118 = true then (spec_Remap.l0 k x0 x1 x2 x8 (wrap64 (x9 + 1))) else (some (x8, false)))) else (none)) else (spec_Remap.l1 k x0 x1 x2 x8 0)
def spec_Remap.l1 : Nat → List Int → List Int → List Int → List Int → Int → Option (List Int × Bool)
 | 0, _, _, _, _, _ => none
 | k + 1, x0, x1, x2, x8, x10 => if (wrap64 (x10 + 1)) < (x2.length : Int) then (if 0 ≤ (wrap64 (x10 + 1)) then ((spec_l11Below.f k x0 x1 (rd x2 (wrap64 (x10 + 1)))).bind fun t120 => (if 0 ≤ x10 then (if x10 < (x2.length : Int) then ((spec_l11Below.f k x0 x1 (rd x2 x10)).bind fun t122 => (if x8.length < 17592186044416 then (spec_Remap.l1 k x0 x1 x2 (x8 ++ [wrap64 (t120 - t122)]) (wrap64 (x10 + 1))) else (none))) else (none)) else (none))) else (none)) else (some (x8, true))
end
def spec_Remap.f (k : Nat) (l0 : List Int) (l1 : List Int) (l2 : List Int) : Option (List Int × Bool) := (some (([] : List Int) : List Int)).bind fun y112 => ((spec_l11EdgesOk.f k l0).bind fun t115 => (if t115 = true then ((spec_l11EdgesOk.f k l2).bind fun t116 => (if t116 = true then (spec_Remap.j0 k l0 l1 l2 y112 ((l1.length : Int) != (wrap64 ((l0.length : Int) - 1)))) else (spec_Remap.j0 k l0 l1 l2 y112 true))) else (spec_Remap.j0 k l0 l1 l2 y112 true)))
theorem spec_Remap.mono_l : ∀ k, (∀ y0 y1 y2 y3 y4, LeO (spec_Remap.j0 k y0 y1 y2 y3 y4) (spec_Remap.j0 (k + 1) y0 y1 y2 y3 y4)) ∧ (∀ y0 y1 y2 y3 y4, LeO (spec_Remap.l0 k y0 y1 y2 y3 y4) (spec_Remap.l0 (k + 1) y0 y1 y2 y3 y4)) ∧ (∀ y0 y1 y2 y3 y4, LeO (spec_Remap.l1 k y0 y1 y2 y3 y4) (spec_Remap.l1 (k + 1) y0 y1 y2 y3 y4))
 | 0 => ⟨fun _ _ _ _ _ r h => by simp [spec_Remap.j0] at h, fun _ _ _ _ _ r h => by simp [spec_Remap.l0] at h, fun _ _ _ _ _ r h => by simp [spec_Remap.l1] at h⟩
 | k + 1 => by
  obtain ⟨ih0, ih1, ih2⟩ := spec_Remap.mono_l k
  refine ⟨?_, ?_, ?_⟩
  ·intro y0 y1 y2 y3 y4
   unfold spec_Remap.j0
   repeat' first
   | (with_reducible exact ih0 _ _ _ _ _)
   | (with_reducible exact ih1 _ _ _ _ _)
   | (with_reducible exact ih2 _ _ _ _ _)
   | (with_reducible exact spec_l11Below.mono _ _ _ _)
   | (with_reducible exact spec_l11EdgesOk.mono _ _)
   | (with_reducible exact LeO.refl _)
   | (with_reducible exact LeO.none _)
   | (with_reducible refine LeO.ite ?_ ?_)
   | (with_reducible refine LeO.bind ?_ (fun _ => ?_))
   | exact ih0 _ _ _ _ _
   | exact ih1 _ _ _ _ _
   | exact ih2 _ _ _ _ _
   | exact spec_l11Below.mono _ _ _ _
   | exact spec_l11EdgesOk.mono _ _
   | exact LeO.none _
   | refine LeO.ite ?_ ?_
   | refine LeO.bind ?_ (fun _ => ?_)
  ·intro y0 y1 y2 y3 y4
   unfold spec_Remap.l0
   repeat' first
   | (with_reducible exact ih0 _ _ _ _ _)
   | (with_reducible exact ih1 _ _ _ _ _)
   | (with_reducible exact ih2 _ _ _ _ _)
   | (with_reducible exact spec_l11Below.mono _ _ _ _)
   | (with_reducible exact spec_l11EdgesOk.mono _ _)
   | (with_reducible exact LeO.refl _)
   | (with_reducible exact LeO.none _)
   | (with_reducible refine LeO.ite ?_ ?_)
   | (with_reducible refine LeO.bind ?_ (fun _ => ?_))
   | exact ih0 _ _ _ _ _
   | exact ih1 _ _ _ _ _
   | exact ih2 _ _ _ _ _
   | exact spec_l11Below.mono _ _ _ _
   | exact spec_l11EdgesOk.mono _ _
   | exact LeO.none _
   | refine LeO.ite ?_ ?_
   | refine LeO.bind ?_ (fun _ => ?_)
  ·intro y0 y1 y2 y3 y4
   unfold spec_Remap.l1
   repeat' first
   | (with_reducible exact ih0 _ _ _ _ _)
   | (with_reducible exact ih1 _ _ _ _ _)
   | (with_reducible exact ih2 _ _ _ _ _)
   | (with_reducible exact spec_l11Below.mono _ _ _ _)
   | (with_reducible exact spec_l11EdgesOk.mono _ _)
   | (with_reducible exact LeO.refl _)
   | (with_reducible exact LeO.none _)
   | (with_reducible refine LeO.ite ?_ ?_)
   | (with_reducible refine LeO.bind ?_ (fun _ => ?_))
   | exact ih0 _ _ _ _ _
   | exact ih1 _ _ _ _ _
   | exact ih2 _ _ _ _ _
   | exact spec_l11Below.mono _ _ _ _
   | exact spec_l11EdgesOk.mono _ _
   | exact LeO.none _
   | refine LeO.ite ?_ ?_
   | refine LeO.bind ?_ (fun _ => ?_)
theorem spec_Remap.mono : ∀ a0 a1 a2 k, LeO (spec_Remap.f k a0 a1 a2) (spec_Remap.f (k + 1) a0 a1 a2) := by
 intro a0 a1 a2 k
 obtain ⟨ih0, ih1, ih2⟩ := spec_Remap.mono_l k
 unfold spec_Remap.f
 repeat' first
   | (with_reducible exact ih0 _ _ _ _ _)
   | (with_reducible exact ih1 _ _ _ _ _)
   | (with_reducible exact ih2 _ _ _ _ _)
   | (with_reducible exact spec_l11Below.mono _ _ _ _)
   | (with_reducible exact spec_l11EdgesOk.mono _ _)
   | (with_reducible exact LeO.refl _)
   | (with_reducible exact LeO.none _)
   | (with_reducible refine LeO.ite ?_ ?_)
   | (with_reducible refine LeO.bind ?_ (fun _ => ?_))
   | exact ih0 _ _ _ _ _
   | exact ih1 _ _ _ _ _
   | exact ih2 _ _ _ _ _
   | exact spec_l11Below.mono _ _ _ _
   | exact spec_l11EdgesOk.mono _ _
   | exact LeO.none _
   | refine LeO.ite ?_ ?_
   | refine LeO.bind ?_ (fun _ => ?_)
def spec_Remap.T12 : Bool × List (List Nat × List Nat) := (true, [([], []), ([], []), ([], []), ([], []), ([], []), ([4], [4]), ([3, 5], [3, 5]), ([6], [6]), ([1, 2, 7], [1, 2, 7]), ([], []), ([], []), ([], []), ([], []), ([11, 12], [11, 12]), ([13], [13]), ([9, 10, 14, 8], [9, 10, 14]), ([8, 15], [8, 15]), ([16], [16]), ([0, 17, 15], [0, 17]), ([18, 18, 0, 1, 2, 3, 4, 5, 6, 7, 8, 9, 10, 11, 12, 13, 14, 15, 16, 17, 18], [0, 18])])
def spec_Remap.B12 : List Nat := [0, 0, 0, 0, 0, 16, 56, 120, 254, 0, 0, 0, 0, 6144, 14336, 32766, 65534, 131070, 262143, 524287]
theorem spec_Remap.tab12 : rtab .any (opsOf Try.f13 12) = spec_Remap.T12 := by kernel_rfl
theorem spec_Remap.bits12 : waitsOk spec_Remap.T12.2 spec_Remap.B12 = true := by kernel_rfl
set_option maxHeartbeats 8000000 in
set_option maxRecDepth 100000 in
theorem spec_Remap.calls (k : Nat) (A0 : Option Addr) (c0 : Nat) (l0 : List Int) (A1 : Option Addr) (c1 : Nat) (l1 : List Int) (A2 : Option Addr) (c2 : Nat) (l2 : List Int) (r1 : List Int) (r2 : Bool) (w : World) (hr0 : Kd.C (Kd.int .i64) w A0 l0.length l0) (hc0 : l0.length ≤ c0) (hr1 : Kd.C (Kd.int .i64) w A1 l1.length l1) (hc1 : l1.length ≤ c1) (hr2 : Kd.C (Kd.int .i64) w A2 l2.length l2) (hc2 : l2.length ≤ c2) (h : spec_Remap.f k l0 l1 l2 = some (r1, r2)) :
  Calls Try.prog 13 #[.slice A0 l0.length c0, .slice A1 l1.length c1, .slice A2 l2.length c2] w fun e w' => ∃ v0_ : Value, e = .returned (.tuple #[v0_, .bool r2]) ∧ Kd.R (Kd.int .i64) 2 w' w.heap.size (fun _ => True) v0_ r1 ∧ Below w.heap.size w w' := by
 have HR0 := Aside0.mk hr0
 have HC0 := Aside0.mk hc0
 clear hr0 hc0
 have HR1 := Aside0.mk hr1
 have HC1 := Aside0.mk hc1
 clear hr1 hc1
 have HR2 := Aside0.mk hr2
 have HC2 := Aside0.mk hc2
 clear hr2 hc2
 have HB := Aside0.mk (Below.refl w.heap.size w)
 have H : ((some (([] : List Int) : List Int)).bind fun y112 => ((spec_l11EdgesOk.f k l0).bind fun t115 => (if t115 = true then ((spec_l11EdgesOk.f k l2).bind fun t116 => (if t116 = true then (spec_Remap.j0 k l0 l1 l2 y112 ((l1.length : Int) != (wrap64 ((l0.length : Int) - 1)))) else (spec_Remap.j0 k l0 l1 l2 y112 true))) else (spec_Remap.j0 k l0 l1 l2 y112 true)))) = some (r1, r2) := h
 clear h
 obtain ⟨y112, hy112⟩ : ∃ y_ : List Int, y_ = (([] : List Int)) := ⟨_, rfl⟩
 replace H : ((spec_l11EdgesOk.f k l0).bind fun t115 => (if t115 = true then ((spec_l11EdgesOk.f k l2).bind fun t116 => (if t116 = true then (spec_Remap.j0 k l0 l1 l2 y112 ((l1.length : Int) != (wrap64 ((l0.length : Int) - 1)))) else (spec_Remap.j0 k l0 l1 l2 y112 true))) else (spec_Remap.j0 k l0 l1 l2 y112 true))) = some (r1, r2) := by first | (rw [hy112]; with_reducible exact H) | (have H2_ := (Option.bind_some _ _).symm.trans H; rw [hy112]; with_reducible exact H2_) | (have H2_ := (Option.bind_some _ _).symm.trans H; with_reducible exact H2_) | with_reducible exact H | (rw [hy112]; exact H) | exact H
 have Ny112 := Aside0.mk hy112
 clear hy112
 have HC4 := Aside0.mk H
 clear H
 go_enter Try.func13, Try.ntmps13
 go_upto_region 2 with (first | ((with_reducible refine gate_dst (N := 11) rfl ?_); (try (refine gate_guard (by rfl) ?_; dsimp only)); refine Kd.R_lit (Kd.int .i64) _ 2 ?hg (N := 11) ?hd (xs := ([] : List Int)) (inner := []) (ok := fun _ => True) (okp := fun _ => True) ?hr ?hp (fun _ hk => hk) trivial (Below.refl _ _) (Nat.le_refl _) (by simp) ?_; (case hd => rfl); (case hg => rfl); (case hr => first | (go_simp; done) | (go_simp; rfl)); (case hp => exact (Reps.none _ _)); intro v113 w5 ho6 hb hg_ hnew_; clear hg_ hnew_; (first | rw [← Ny112.out] at ho6 | (simp only [Int.reduceToNat] at ho6; rw [← Ny112.out] at ho6)); have n0_ := Aside0.mk (Kd.R_lower ho6 (below_size (by repeat (first | (with_reducible first | exact HB.out | apply below_alloc | apply pw_below_drewN | apply below_drew1) | exact HB.out)))); have n1_ := Aside0.mk (below_step (by repeat (first | (with_reducible first | exact HB.out | apply below_alloc | apply pw_below_drewN | apply below_drew1) | exact HB.out)) hb); clear HB; have HO114 := n0_; have HB := n1_; clear n0_ n1_; clear hb ho6))
 (try simp only [Act.put, sqA, sqZ, sqS])
 go_cut [27] (fun v27 wc => ∃ (kq : Nat) (x27_3 : Bool), v27 = .bool x27_3 ∧ Aside0 (spec_Remap.j0 kq l0 l1 l2 y112 x27_3 = some (r1, r2)) ∧ Aside0 (kq ≤ k) ∧ Aside0 (Kd.R (Kd.int .i64) 2 wc w.heap.size (fun _ => True) v113 y112) ∧ Aside0 (Below w.heap.size w wc))
 case first =>
  have H := HC4.out
  clear HC4
  replace H := Option.bind_eq_some_iff.mp H
  obtain ⟨t115, A70, H⟩ := H
  replace H : (if t115 = true then ((spec_l11EdgesOk.f k l2).bind fun t116 => (if t116 = true then (spec_Remap.j0 k l0 l1 l2 y112 ((l1.length : Int) != (wrap64 ((l0.length : Int) - 1)))) else (spec_Remap.j0 k l0 l1 l2 y112 true))) else (spec_Remap.j0 k l0 l1 l2 y112 true)) = some (r1, r2) := H
  have A7 := Aside0.mk A70
  clear A70
  by_cases c8 : t115 = true
  ·subst c8
   have H1 : ((spec_l11EdgesOk.f k l2).bind fun t116 => (if t116 = true then (spec_Remap.j0 k l0 l1 l2 y112 ((l1.length : Int) != (wrap64 ((l0.length : Int) - 1)))) else (spec_Remap.j0 k l0 l1 l2 y112 true))) = some (r1, r2) := by rw [if_pos rfl] at H; exact H
   clear H
   have H := H1
   clear H1
   replace H := Option.bind_eq_some_iff.mp H
   obtain ⟨t116, A90, H⟩ := H
   replace H : (if t116 = true then (spec_Remap.j0 k l0 l1 l2 y112 ((l1.length : Int) != (wrap64 ((l0.length : Int) - 1)))) else (spec_Remap.j0 k l0 l1 l2 y112 true)) = some (r1, r2) := H
   have A9 := Aside0.mk A90
   clear A90
   by_cases c10 : t116 = true
   ·subst c10
    have H1 : (spec_Remap.j0 k l0 l1 l2 y112 ((l1.length : Int) != (wrap64 ((l0.length : Int) - 1)))) = some (r1, r2) := by rw [if_pos rfl] at H; exact H
    clear H
    have H := H1
    clear H1
    have H' := Aside0.mk H
    clear H
    go_wp2_with (first | ((with_reducible refine gate_callee (f := 27) rfl ?_); refine goesL_ (some 13) rfl rfl Try.func27 (by kernel_rfl) rfl #[.slice A0 l0.length c0] rfl (by (try simp only [List.map_toArray, List.map_cons, List.map_nil]); first | done | rfl | (simp only [List.length_drop, List.length_take]; rfl)) ?_; (with_reducible refine (spec_l11EdgesOk.calls k _ _ l0 true _ ?side1 ?side2 A7.out).mono ?_); (case side1 => repeat (first | exact (Kd.C_below HR0.out HB.out) | (with_reducible refine Kd.C_alloc ?_ _) | (with_reducible refine Kd.C_drewN ?_ _) | (with_reducible refine Kd.C_drew ?_))); (case side2 => exact HC0.out); rintro e w' ⟨rfl, ⟨nd, rfl⟩⟩; refine ⟨_, rfl, ?_⟩) | (go_at_call 27; (with_reducible refine (spec_l11EdgesOk.calls k _ _ l2 true _ ?side1 ?side2 A9.out).mono ?_); (case side1 => repeat (first | exact (Kd.C_below HR2.out (by repeat (first | (with_reducible first | exact HB.out | apply below_alloc | apply pw_below_drewN | apply below_drew1) | exact HB.out))) | (with_reducible refine Kd.C_alloc ?_ _) | (with_reducible refine Kd.C_drewN ?_ _) | (with_reducible refine Kd.C_drew ?_))); (case side2 => exact HC2.out); rintro e w' ⟨rfl, ⟨nd, rfl⟩⟩))
    go_meet
    case rel => exact ⟨_, (((l1.length : Int) != (wrap64 ((l0.length : Int) - 1)))), (by first | rfl | (simp; done) | (simp [*]; done)), H', ⟨by first | omega | exact Nat.le_refl _⟩, ⟨by (with_reducible repeat (first | apply Kd.R_alloc | apply Kd.R_drewN | apply Kd.R_drew)); exact HO114.out⟩, ⟨by repeat (first | (with_reducible first | exact HB.out | apply below_alloc | apply pw_below_drewN | apply below_drew1) | exact HB.out)⟩⟩
   ·replace c10 := Bool.eq_false_iff.mpr c10
    subst c10
    have H1 : (spec_Remap.j0 k l0 l1 l2 y112 true) = some (r1, r2) := by rw [if_neg (show ¬ (false = true) by decide)] at H; exact H
    clear H
    have H := H1
    clear H1
    have H' := Aside0.mk H
    clear H
    go_wp2_with (first | ((with_reducible refine gate_callee (f := 27) rfl ?_); refine goesL_ (some 13) rfl rfl Try.func27 (by kernel_rfl) rfl #[.slice A0 l0.length c0] rfl (by (try simp only [List.map_toArray, List.map_cons, List.map_nil]); first | done | rfl | (simp only [List.length_drop, List.length_take]; rfl)) ?_; (with_reducible refine (spec_l11EdgesOk.calls k _ _ l0 true _ ?side1 ?side2 A7.out).mono ?_); (case side1 => repeat (first | exact (Kd.C_below HR0.out HB.out) | (with_reducible refine Kd.C_alloc ?_ _) | (with_reducible refine Kd.C_drewN ?_ _) | (with_reducible refine Kd.C_drew ?_))); (case side2 => exact HC0.out); rintro e w' ⟨rfl, ⟨nd, rfl⟩⟩; refine ⟨_, rfl, ?_⟩) | (go_at_call 27; (with_reducible refine (spec_l11EdgesOk.calls k _ _ l2 false _ ?side1 ?side2 A9.out).mono ?_); (case side1 => repeat (first | exact (Kd.C_below HR2.out (by repeat (first | (with_reducible first | exact HB.out | apply below_alloc | apply pw_below_drewN | apply below_drew1) | exact HB.out))) | (with_reducible refine Kd.C_alloc ?_ _) | (with_reducible refine Kd.C_drewN ?_ _) | (with_reducible refine Kd.C_drew ?_))); (case side2 => exact HC2.out); rintro e w' ⟨rfl, ⟨nd, rfl⟩⟩))
    go_meet
    case rel => exact ⟨_, (true), (by first | rfl | (simp; done) | (simp [*]; done)), H', ⟨by first | omega | exact Nat.le_refl _⟩, ⟨by (with_reducible repeat (first | apply Kd.R_alloc | apply Kd.R_drewN | apply Kd.R_drew)); exact HO114.out⟩, ⟨by repeat (first | (with_reducible first | exact HB.out | apply below_alloc | apply pw_below_drewN | apply below_drew1) | exact HB.out)⟩⟩
  ·replace c8 := Bool.eq_false_iff.mpr c8
   subst c8
   have H1 : (spec_Remap.j0 k l0 l1 l2 y112 true) = some (r1, r2) := by rw [if_neg (show ¬ (false = true) by decide)] at H; exact H
   clear H
   have H := H1
   clear H1
   have H' := Aside0.mk H
   clear H
   go_wp2_with (first | ((with_reducible refine gate_callee (f := 27) rfl ?_); refine goesL_ (some 13) rfl rfl Try.func27 (by kernel_rfl) rfl #[.slice A0 l0.length c0] rfl (by (try simp only [List.map_toArray, List.map_cons, List.map_nil]); first | done | rfl | (simp only [List.length_drop, List.length_take]; rfl)) ?_; (with_reducible refine (spec_l11EdgesOk.calls k _ _ l0 false _ ?side1 ?side2 A7.out).mono ?_); (case side1 => repeat (first | exact (Kd.C_below HR0.out HB.out) | (with_reducible refine Kd.C_alloc ?_ _) | (with_reducible refine Kd.C_drewN ?_ _) | (with_reducible refine Kd.C_drew ?_))); (case side2 => exact HC0.out); rintro e w' ⟨rfl, ⟨nd, rfl⟩⟩; refine ⟨_, rfl, ?_⟩))
   go_meet
   case rel => exact ⟨_, (true), (by first | rfl | (simp; done) | (simp [*]; done)), H', ⟨by first | omega | exact Nat.le_refl _⟩, ⟨by (with_reducible repeat (first | apply Kd.R_alloc | apply Kd.R_drewN | apply Kd.R_drew)); exact HO114.out⟩, ⟨by repeat (first | (with_reducible first | exact HB.out | apply below_alloc | apply pw_below_drewN | apply below_drew1) | exact HB.out)⟩⟩
 case rest =>
  clear HC4
  try clear c1
  try clear c2
  try clear p2
  try clear p6
  try clear c8
  try clear c10
  obtain ⟨kq, x27_3, rfl, HA, HJ3, HO_8, HB⟩ := hcut
  cases kq with
  | zero => exact absurd HA.out (by simp [spec_Remap.j0])
  | succ kj3 =>
   have H := HA.out
   clear HA
   simp only [spec_Remap.j0] at H
   by_cases c11 : x27_3 = true
   ·subst c11
    have H1 : (some (y112, false)) = some (r1, r2) := by rw [if_pos rfl] at H; exact H
    clear H
    have H := H1
    clear H1
    simp only [Option.some.injEq, Prod.mk.injEq] at H
    obtain ⟨rfl, rfl⟩ := H
    go_wp2
    go_ret2
    exact ⟨_, by first | rfl | (simp [errW_none, errW_some] <;> rfl) | (simp [*, errW_none, errW_some] <;> rfl), by (with_reducible repeat (first | apply Kd.R_alloc | apply Kd.R_drewN | apply Kd.R_drew)); exact HO_8.out, by repeat (first | (with_reducible first | exact HB.out | apply below_alloc | apply pw_below_drewN | apply below_drew1) | exact HB.out)⟩
   ·replace c11 := Bool.eq_false_iff.mpr c11
    subst c11
    have H1 : (spec_Remap.l0 kj3 l0 l1 l2 y112 0) = some (r1, r2) := by rw [if_neg (show ¬ (false = true) by decide)] at H; exact H
    clear H
    have H := H1
    clear H1
    have H' := Aside0.mk H
    clear H
    go_wp2
    go_loopg [9] kj3 (fun kq v9 w' => ∃ (x9_2 : Int), v9 = .int .i64 x9_2 ∧ Aside0 (spec_Remap.l0 kq l0 l1 l2 y112 x9_2 = some (r1, r2)) ∧ Aside0 (kq ≤ kj3) ∧ Aside0 (Kd.R (Kd.int .i64) 2 w' w.heap.size (fun _ => True) v113 y112) ∧ Aside0 (Below w.heap.size w w'))
    case atStart => exact ⟨(0), (by first | rfl | (simp; done) | (simp [*]; done)), H', ⟨Nat.le_refl _⟩, ⟨by (with_reducible repeat (first | apply Kd.R_alloc | apply Kd.R_drewN | apply Kd.R_drew)); exact HO_8.out⟩, ⟨by repeat (first | (with_reducible first | exact HB.out | apply below_alloc | apply pw_below_drewN | apply below_drew1) | exact HB.out)⟩⟩
    case round =>
     clear H'
     try clear c1
     try clear c2
     try clear p2
     try clear p6
     try clear c8
     try clear c10
     try clear c11
     try clear p2
     try clear p6
     obtain ⟨x9_2, rfl, HA, HK2, HO_8, HB⟩ := hrel
     cases gk with
     | zero => exact absurd HA.out (by simp [spec_Remap.l0])
     | succ k2 =>
      have H := HA.out
      clear HA
      simp only [spec_Remap.l0] at H
      by_cases c12 : x9_2 < (l1.length : Int)
      ·rw [if_pos c12] at H
       have c12b0 : decide (x9_2 < (l1.length : Int)) = true := decide_eq_true c12
       clear c12
       by_cases c13 : 0 ≤ x9_2
       ·rw [if_pos c13] at H
        have c13b0 : decide (0 ≤ x9_2) = true := decide_eq_true c13
        clear c13
        replace H := Option.bind_eq_some_iff.mp H
        obtain ⟨t118, A140, H⟩ := H
        replace H : (if t118 = true then (spec_Remap.l0 k2 l0 l1 l2 y112 (wrap64 (x9_2 + 1))) else (some (y112, false))) = some (r1, r2) := H
        have A14 := Aside0.mk A140
        clear A140
        by_cases c15 : t118 = true
        ·subst c15
         have H1 : (spec_Remap.l0 k2 l0 l1 l2 y112 (wrap64 (x9_2 + 1))) = some (r1, r2) := by rw [if_pos rfl] at H; exact H
         clear H
         have H := H1
         clear H1
         have H' := Aside0.mk H
         clear H
         have p117 : 0 ≤ (x9_2 : Int) := of_decide_eq_true (by first | (with_reducible assumption) | assumption)
         have q117 : x9_2 < (l1.length : Int) := of_decide_eq_true (by first | (with_reducible assumption) | assumption)
         obtain ⟨ad117, e117, hx117_0⟩ := Kd.at_int HR1.out x9_2 p117 q117
         cases e117
         replace hx117_0 := (HB.out.cell (World.block_lt_of_cell? w _ hx117_0)).trans hx117_0
         replace p117 := eq_true p117
         replace q117 := eq_true q117
         go_wp2_with (first | ((with_reducible refine gate_callee (f := 28) rfl ?_); refine goesL_ (some 39) rfl rfl Try.func28 (by kernel_rfl) rfl #[.int .i64 (rd l1 x9_2), .int .i64 0, .int .i64 1000000000000] rfl (by (try simp only [List.map_toArray, List.map_cons, List.map_nil]); first | done | rfl | (simp only [List.length_drop, List.length_take]; rfl)) ?_; (with_reducible refine (spec_l2In.calls (rd l1 x9_2) 0 1000000000000 true _ A14.out).mono ?_); rintro e w' ⟨rfl, ⟨nd, rfl⟩⟩; refine ⟨_, rfl, ?_⟩))
         go_roundg k2
         case measure => have := HJ3.out; have := HK2.out; omega
         case rel => exact ⟨(wrap64 (x9_2 + 1)), (by first | rfl | (simp; done) | (simp [*]; done)), H', ⟨by have := HJ3.out; have := HK2.out; omega⟩, ⟨by (with_reducible repeat (first | apply Kd.R_alloc | apply Kd.R_drewN | apply Kd.R_drew)); exact HO_8.out⟩, ⟨by repeat (first | (with_reducible first | exact HB.out | apply below_alloc | apply pw_below_drewN | apply below_drew1) | exact HB.out)⟩⟩
        ·replace c15 := Bool.eq_false_iff.mpr c15
         subst c15
         have H1 : (some (y112, false)) = some (r1, r2) := by rw [if_neg (show ¬ (false = true) by decide)] at H; exact H
         clear H
         have H := H1
         clear H1
         simp only [Option.some.injEq, Prod.mk.injEq] at H
         obtain ⟨rfl, rfl⟩ := H
         have p117 : 0 ≤ (x9_2 : Int) := of_decide_eq_true (by first | (with_reducible assumption) | assumption)
         have q117 : x9_2 < (l1.length : Int) := of_decide_eq_true (by first | (with_reducible assumption) | assumption)
         obtain ⟨ad117, e117, hx117_0⟩ := Kd.at_int HR1.out x9_2 p117 q117
         cases e117
         replace hx117_0 := (HB.out.cell (World.block_lt_of_cell? w _ hx117_0)).trans hx117_0
         replace p117 := eq_true p117
         replace q117 := eq_true q117
         go_wp2_with (first | ((with_reducible refine gate_callee (f := 28) rfl ?_); refine goesL_ (some 39) rfl rfl Try.func28 (by kernel_rfl) rfl #[.int .i64 (rd l1 x9_2), .int .i64 0, .int .i64 1000000000000] rfl (by (try simp only [List.map_toArray, List.map_cons, List.map_nil]); first | done | rfl | (simp only [List.length_drop, List.length_take]; rfl)) ?_; (with_reducible refine (spec_l2In.calls (rd l1 x9_2) 0 1000000000000 false _ A14.out).mono ?_); rintro e w' ⟨rfl, ⟨nd, rfl⟩⟩; refine ⟨_, rfl, ?_⟩))
         go_ret2
         exact ⟨_, by first | rfl | (simp [errW_none, errW_some] <;> rfl) | (simp [*, errW_none, errW_some] <;> rfl), by (with_reducible repeat (first | apply Kd.R_alloc | apply Kd.R_drewN | apply Kd.R_drew)); exact HO_8.out, by repeat (first | (with_reducible first | exact HB.out | apply below_alloc | apply pw_below_drewN | apply below_drew1) | exact HB.out)⟩
       ·rw [if_neg c13] at H
        exact absurd H (by simp)
      ·rw [if_neg c12] at H
       have c12b0 : decide (x9_2 < (l1.length : Int)) = false := decide_eq_false c12
       clear c12
       have H' := Aside0.mk H
       clear H
       go_wp2
       go_loopg [8, 10] k2 (fun kq v8 v10 w' => ∃ (x8_3 : List Int) (x10_3 : Int), v10 = .int .i64 x10_3 ∧ Aside0 (spec_Remap.l1 kq l0 l1 l2 x8_3 x10_3 = some (r1, r2)) ∧ Aside0 (kq ≤ k2) ∧ Aside0 (Kd.R (Kd.int .i64) 2 w' w.heap.size (fun _ => True) v8 x8_3) ∧ Aside0 (Below w.heap.size w w'))
       case atStart => exact ⟨(y112), (0), (by first | rfl | (simp; done) | (simp [*]; done)), H', ⟨Nat.le_refl _⟩, ⟨by (with_reducible repeat (first | apply Kd.R_alloc | apply Kd.R_drewN | apply Kd.R_drew)); exact HO_8.out⟩, ⟨by repeat (first | (with_reducible first | exact HB.out | apply below_alloc | apply pw_below_drewN | apply below_drew1) | exact HB.out)⟩⟩
       case round =>
        clear H'
        try clear c1
        try clear p1
        try clear q1
        try clear hx1
        try clear c2
        try clear p2
        try clear p6
        try clear c8
        try clear c10
        try clear c11
        try clear p11
        try clear q11
        try clear hx11
        try clear c12
        try clear c12b0
        try clear c13
        try clear c13b0
        try clear c15
        try clear hx117_0
        try clear p117
        try clear p2
        try clear p6
        try clear q117
        obtain ⟨x8_3, x10_3, rfl, HA, HK3, HO_8, HB⟩ := hrel
        cases gk with
        | zero => exact absurd HA.out (by simp [spec_Remap.l1])
        | succ k3 =>
         have H := HA.out
         clear HA
         simp only [spec_Remap.l1] at H
         by_cases c16 : (wrap64 (x10_3 + 1)) < (l2.length : Int)
         ·rw [if_pos c16] at H
          have c16b0 : decide ((wrap64 (x10_3 + 1)) < (l2.length : Int)) = true := decide_eq_true c16
          clear c16
          obtain ⟨ji17, hji17⟩ : ∃ j_ : Int, (wrap64 (x10_3 + 1)) = j_ := ⟨_, rfl⟩
          replace H : (if 0 ≤ (ji17) then ((spec_l11Below.f k3 l0 l1 (rd l2 (ji17))).bind fun t120 => (if 0 ≤ x10_3 then (if x10_3 < (l2.length : Int) then ((spec_l11Below.f k3 l0 l1 (rd l2 x10_3)).bind fun t122 => (if x8_3.length < 17592186044416 then (spec_Remap.l1 k3 l0 l1 l2 (x8_3 ++ [wrap64 (t120 - t122)]) ji17) else (none))) else (none)) else (none))) else (none)) = some (r1, r2) := by first | (rw [hji17] at H; exact H) | (simp only [hji17] at H ⊢; exact H)
          (try rw [hji17] at c16b0)
          have hji17w : (IntKind.i64.wrap (x10_3 + 1)) = ji17 := (i64_w _).trans hji17
          by_cases c18 : 0 ≤ (ji17)
          ·rw [if_pos c18] at H
           have c18b0 : decide (0 ≤ (ji17)) = true := decide_eq_true c18
           clear c18
           replace H := Option.bind_eq_some_iff.mp H
           obtain ⟨t120, A190, H⟩ := H
           replace H : (if 0 ≤ x10_3 then (if x10_3 < (l2.length : Int) then ((spec_l11Below.f k3 l0 l1 (rd l2 x10_3)).bind fun t122 => (if x8_3.length < 17592186044416 then (spec_Remap.l1 k3 l0 l1 l2 (x8_3 ++ [wrap64 (t120 - t122)]) ji17) else (none))) else (none)) else (none)) = some (r1, r2) := H
           have A19 := Aside0.mk A190
           clear A190
           by_cases c20 : 0 ≤ x10_3
           ·rw [if_pos c20] at H
            have c20b0 : decide (0 ≤ x10_3) = true := decide_eq_true c20
            clear c20
            by_cases c21 : x10_3 < (l2.length : Int)
            ·rw [if_pos c21] at H
             have c21b0 : decide (x10_3 < (l2.length : Int)) = true := decide_eq_true c21
             clear c21
             replace H := Option.bind_eq_some_iff.mp H
             obtain ⟨t122, A220, H⟩ := H
             replace H : (if x8_3.length < 17592186044416 then (spec_Remap.l1 k3 l0 l1 l2 (x8_3 ++ [wrap64 (t120 - t122)]) ji17) else (none)) = some (r1, r2) := H
             have A22 := Aside0.mk A220
             clear A220
             by_cases c23 : x8_3.length < 17592186044416
             ·rw [if_pos c23] at H
              have LMc23 := Aside0.mk c23
              clear c23
              obtain ⟨y123, hy123⟩ : ∃ y_ : List Int, y_ = (x8_3 ++ [wrap64 (t120 - t122)]) := ⟨_, rfl⟩
              replace H : (spec_Remap.l1 k3 l0 l1 l2 y123 ji17) = some (r1, r2) := by first | (rw [hy123]; with_reducible exact H) | (have H2_ := (Option.bind_some _ _).symm.trans H; rw [hy123]; with_reducible exact H2_) | (have H2_ := (Option.bind_some _ _).symm.trans H; with_reducible exact H2_) | with_reducible exact H | (rw [hy123]; exact H) | exact H
              have Ny123 := Aside0.mk hy123
              clear hy123
              have H' := Aside0.mk H
              clear H
              try go_wp2
              have n0_ := Aside0.mk (Kd.R_drew HO_8.out)
              have n1_ := Aside0.mk (below_drew1 HB.out)
              clear HO_8
              clear HB
              have HO_8 := n0_
              have HB := n1_
              clear n0_ n1_
              have p119 : 0 ≤ ((ji17) : Int) := of_decide_eq_true (by first | (with_reducible assumption) | assumption)
              have q119 : (ji17) < (l2.length : Int) := of_decide_eq_true (by first | (with_reducible assumption) | assumption)
              obtain ⟨ad119, e119, hx119_0⟩ := Kd.at_int HR2.out (ji17) p119 q119
              have hw119_0 := hx119_0
              cases e119
              replace hx119_0 := (HB.out.cell (World.block_lt_of_cell? w _ hx119_0)).trans hx119_0
              replace p119 := eq_true p119
              replace q119 := eq_true q119
              have p121 : 0 ≤ (x10_3 : Int) := of_decide_eq_true (by first | (with_reducible assumption) | assumption)
              have q121 : x10_3 < (l2.length : Int) := of_decide_eq_true (by first | (with_reducible assumption) | assumption)
              obtain ⟨ad121, e121, hx121_0⟩ := Kd.at_int HR2.out x10_3 p121 q121
              have hw121_0 := hx121_0
              obtain rfl : ad119 = ad121 := (by injection e121)
              replace hx121_0 := (HB.out.cell (World.block_lt_of_cell? w _ hx121_0)).trans hx121_0
              replace p121 := eq_true p121
              replace q121 := eq_true q121
              refine start_ (n := 20) (S := fun w' => w'.cell? (ad119.add ((ji17)).toNat) = some (.int .i64 (rd l2 (ji17))) ∧ w'.cell? (ad119.add (x10_3).toNat) = some (.int .i64 (rd l2 x10_3))) (ds := []) #[false, false, false, false, false, false, false, false, false, false, false, false, false, false, false, false, false, false, false, false] (by kernel_rfl) rfl rfl ⟨((HB.out.cell (World.block_lt_of_cell? w _ hw119_0)).trans hw119_0), ((HB.out.cell (World.block_lt_of_cell? w _ hw121_0)).trans hw121_0)⟩ (fun hHeld => ?_); refine with_tabW spec_Remap.tab12 spec_Remap.bits12 (fun HT_ HW_ => ?_)
              generalize wr.drew = w24 at HO_8 HB hx119_0 hx121_0 hHeld ⊢
              refine pure_ (i := 0) (N := some 49) (v := ?_) (a' := ?_) #[true, false, false, false, false, false, false, false, false, false, false, false, false, false, false, false, false, false, false, false] rfl rfl (any_of HT_.out (by kernel_rfl)) (fun _ _ _ h => h) (Or.inl ⟨by rfl, ?_⟩) ?_ ?_
              rotate_left
              ·intro w'
               go_simp
               with_reducible rfl
              rotate_left
              ·simp only [Act.put, sqA, sqZ, sqS, i64_w, i32_w]
               rfl
              refine pure_ (i := 1) (N := some 50) (v := ?_) (a' := ?_) #[true, true, false, false, false, false, false, false, false, false, false, false, false, false, false, false, false, false, false, false] rfl rfl (any_of HT_.out (by kernel_rfl)) (fun _ _ _ h => h) (Or.inl ⟨by rfl, ?_⟩) ?_ ?_
              rotate_left
              ·intro w'
               go_simp
               with_reducible rfl
              rotate_left
              ·simp only [Act.put, sqA, sqZ, sqS, i64_w, i32_w]
               rfl
              refine pure_ (i := 2) (N := some 51) (v := ?_) (a' := ?_) #[true, true, true, false, false, false, false, false, false, false, false, false, false, false, false, false, false, false, false, false] rfl rfl (any_of HT_.out (by kernel_rfl)) (fun _ _ _ h => h) (Or.inl ⟨by rfl, ?_⟩) ?_ ?_
              rotate_left
              ·intro w'
               go_simp
               with_reducible rfl
              rotate_left
              ·simp only [Act.put, sqA, sqZ, sqS, i64_w, i32_w]
               rfl
              refine pure_ (i := 3) (N := some 52) (v := ?_) (a' := ?_) #[true, true, true, true, false, false, false, false, false, false, false, false, false, false, false, false, false, false, false, false] rfl rfl (any_of HT_.out (by kernel_rfl)) (fun _ _ _ h => h) (Or.inl ⟨by rfl, ?_⟩) ?_ ?_
              rotate_left
              ·intro w'
               go_simp
               with_reducible rfl
              rotate_left
              ·simp only [Act.put, sqA, sqZ, sqS, i64_w, i32_w]
               rfl
              refine pure_ (i := 4) (N := some 53) (v := ?_) (a' := ?_) #[true, true, true, true, true, false, false, false, false, false, false, false, false, false, false, false, false, false, false, false] rfl rfl (any_of HT_.out (by kernel_rfl)) (fun _ _ _ h => h) (Or.inl ⟨by rfl, ?_⟩) ?_ ?_
              rotate_left
              ·intro w'
               go_simp
               with_reducible rfl
              rotate_left
              ·simp only [Act.put, sqA, sqZ, sqS, i64_w, i32_w]
               rfl
              refine pure_ (i := 5) (N := some 54) (v := ?_) (a' := ?_) #[true, true, true, true, true, true, false, false, false, false, false, false, false, false, false, false, false, false, false, false] rfl rfl (any_of HT_.out (by kernel_rfl)) (fun _ _ _ h => h) (Or.inl ⟨by rfl, ?_⟩) ?_ ?_
              rotate_left
              ·intro w'
               go_simp
               with_reducible rfl
              rotate_left
              ·simp only [Act.put, sqA, sqZ, sqS, i64_w, i32_w]
               rfl
              refine pure_ (i := 6) (N := some 55) (v := ?_) (a' := ?_) #[true, true, true, true, true, true, true, false, false, false, false, false, false, false, false, false, false, false, false, false] rfl rfl (any_of HT_.out (by kernel_rfl)) (fun _ _ _ h => h) (Or.inl ⟨by rfl, ?_⟩) ?_ ?_
              rotate_left
              ·intro w'
               go_simp
               with_reducible rfl
              rotate_left
              ·simp only [Act.put, sqA, sqZ, sqS, i64_w, i32_w]
               rfl
              refine pure_ (i := 9) (N := some 58) (v := ?_) (a' := ?_) #[true, true, true, true, true, true, true, false, false, true, false, false, false, false, false, false, false, false, false, false] rfl rfl (any_of HT_.out (by kernel_rfl)) (fun _ _ _ h => h) (Or.inl ⟨by rfl, ?_⟩) ?_ ?_
              rotate_left
              ·intro w'
               go_simp
               with_reducible rfl
              rotate_left
              ·simp only [Act.put, sqA, sqZ, sqS, i64_w, i32_w]
               rfl
              refine pure_ (i := 10) (N := some 59) (v := ?_) (a' := ?_) #[true, true, true, true, true, true, true, false, false, true, true, false, false, false, false, false, false, false, false, false] rfl rfl (any_of HT_.out (by kernel_rfl)) (fun _ _ _ h => h) (Or.inl ⟨by rfl, ?_⟩) ?_ ?_
              rotate_left
              ·intro w'
               go_simp
               with_reducible rfl
              rotate_left
              ·simp only [Act.put, sqA, sqZ, sqS, i64_w, i32_w]
               rfl
              refine pure_ (i := 11) (N := some 60) (v := ?_) (a' := ?_) #[true, true, true, true, true, true, true, false, false, true, true, true, false, false, false, false, false, false, false, false] rfl rfl (any_of HT_.out (by kernel_rfl)) (fun _ _ _ h => h) (Or.inl ⟨by rfl, ?_⟩) ?_ ?_
              rotate_left
              ·intro w'
               go_simp
               with_reducible rfl
              rotate_left
              ·simp only [Act.put, sqA, sqZ, sqS, i64_w, i32_w]
               rfl
              refine pure_ (i := 12) (N := some 61) (v := ?_) (a' := ?_) #[true, true, true, true, true, true, true, false, false, true, true, true, true, false, false, false, false, false, false, false] rfl rfl (any_of HT_.out (by kernel_rfl)) (fun _ _ _ h => h) (Or.inl ⟨by rfl, ?_⟩) ?_ ?_
              rotate_left
              ·intro w'
               go_simp
               with_reducible rfl
              rotate_left
              ·simp only [Act.put, sqA, sqZ, sqS, i64_w, i32_w]
               rfl
              refine pure_ (i := 13) (N := some 62) (v := ?_) (a' := ?_) #[true, true, true, true, true, true, true, false, false, true, true, true, true, true, false, false, false, false, false, false] rfl rfl (any_of HT_.out (by kernel_rfl)) (fun _ _ _ h => h) (Or.inl ⟨by rfl, ?_⟩) ?_ ?_
              rotate_left
              ·intro w'
               go_simp
               with_reducible rfl
              rotate_left
              ·simp only [Act.put, sqA, sqZ, sqS, i64_w, i32_w]
               rfl
              refine take_ (i := 7) (N := some 56) (v := ?_) (a' := ?_) #[true, true, true, true, true, true, true, true, false, true, true, true, true, true, false, false, false, false, false, false] rfl rfl (take_ofW HT_.out HW_.out (by kernel_rfl)) (fun _ _ _ h => h) (Or.inl ⟨by rfl, ?_⟩) hHeld ?_ ?_
              rotate_left
              ·rintro w' ⟨s0, s1⟩
               go_simp
               with_reducible rfl
              rotate_left
              ·simp only [Act.put, sqA, sqZ, sqS, i64_w, i32_w]
               rfl
              refine take_ (i := 14) (N := some 63) (v := ?_) (a' := ?_) #[true, true, true, true, true, true, true, true, false, true, true, true, true, true, true, false, false, false, false, false] rfl rfl (take_ofW HT_.out HW_.out (by kernel_rfl)) (fun _ _ _ h => h) (Or.inl ⟨by rfl, ?_⟩) hHeld ?_ ?_
              rotate_left
              ·rintro w' ⟨s0, s1⟩
               go_simp
               with_reducible rfl
              rotate_left
              ·simp only [Act.put, sqA, sqZ, sqS, i64_w, i32_w]
               rfl
              refine one_ (i := 8) (N := some 57) #[true, true, true, true, true, true, true, true, true, true, true, true, true, true, true, false, false, false, false, false] rfl rfl (one_of HT_.out (by kernel_rfl)) (by decide) (fun K hK => ?_)
              refine goes_ Try.func29 (by kernel_rfl) rfl #[.slice A0 l0.length c0, .slice A1 l1.length c1, .int .i64 (rd l2 (ji17))] (by rfl) rfl rfl (by (try simp only [List.map_toArray, List.map_cons, List.map_nil]); first | done | (simp only [hji17]; rfl) | rfl | (simp only [List.length_drop, List.length_take]; rfl)) ?_
              with_reducible refine (spec_l11Below.calls k3 _ _ l0 _ _ l1 (rd l2 (ji17)) t120 _ ?side1 ?side2 ?side3 ?side4 A19.out).mono ?_
              (case side1 => repeat (first | exact (Kd.C_below HR0.out HB.out) | (with_reducible refine Kd.C_alloc ?_ _) | (with_reducible refine Kd.C_drewN ?_ _) | (with_reducible refine Kd.C_drew ?_)))
              (case side2 => exact HC0.out)
              (case side3 => repeat (first | exact (Kd.C_below HR1.out HB.out) | (with_reducible refine Kd.C_alloc ?_ _) | (with_reducible refine Kd.C_drewN ?_ _) | (with_reducible refine Kd.C_drew ?_)))
              (case side4 => exact HC1.out)
              rintro e w' ⟨rfl, ⟨nd, rfl⟩⟩
              refine ⟨_, rfl, ?_⟩
              refine hK.out _ _ ⟨((HB.out.cell (World.block_lt_of_cell? w _ hw119_0)).trans hw119_0), ((HB.out.cell (World.block_lt_of_cell? w _ hw121_0)).trans hw121_0)⟩ (fun hHeld => ?_)
              clear hK K
              refine norm_ (a' := ?_) ?_ ?_
              rotate_left
              ·show Act.put _ (some 57) _ = _
               simp only [Act.put, sqA, sqZ, sqS, i64_w, i32_w]
               rfl
              refine one_ (i := 15) (N := some 64) #[true, true, true, true, true, true, true, true, true, true, true, true, true, true, true, true, false, false, false, false] rfl rfl (one_of HT_.out (by kernel_rfl)) (by decide) (fun K hK => ?_)
              refine goes_ Try.func29 (by kernel_rfl) rfl #[.slice A0 l0.length c0, .slice A1 l1.length c1, .int .i64 (rd l2 x10_3)] (by rfl) rfl rfl (by (try simp only [List.map_toArray, List.map_cons, List.map_nil]); first | done | rfl | (simp only [List.length_drop, List.length_take]; rfl)) ?_
              with_reducible refine (spec_l11Below.calls k3 _ _ l0 _ _ l1 (rd l2 x10_3) t122 _ ?side1 ?side2 ?side3 ?side4 A22.out).mono ?_
              (case side1 => repeat (first | exact (Kd.C_below HR0.out (by repeat (first | (with_reducible first | exact HB.out | apply below_alloc | apply pw_below_drewN | apply below_drew1) | exact HB.out))) | (with_reducible refine Kd.C_alloc ?_ _) | (with_reducible refine Kd.C_drewN ?_ _) | (with_reducible refine Kd.C_drew ?_)))
              (case side2 => exact HC0.out)
              (case side3 => repeat (first | exact (Kd.C_below HR1.out (by repeat (first | (with_reducible first | exact HB.out | apply below_alloc | apply pw_below_drewN | apply below_drew1) | exact HB.out))) | (with_reducible refine Kd.C_alloc ?_ _) | (with_reducible refine Kd.C_drewN ?_ _) | (with_reducible refine Kd.C_drew ?_)))
              (case side4 => exact HC1.out)
              rintro e w' ⟨rfl, ⟨nd, rfl⟩⟩
              refine ⟨_, rfl, ?_⟩
              refine hK.out _ _ ⟨((HB.out.cell (World.block_lt_of_cell? w _ hw119_0)).trans hw119_0), ((HB.out.cell (World.block_lt_of_cell? w _ hw121_0)).trans hw121_0)⟩ (fun hHeld => ?_)
              clear hK K
              refine norm_ (a' := ?_) ?_ ?_
              rotate_left
              ·show Act.put _ (some 64) _ = _
               simp only [Act.put, sqA, sqZ, sqS, i64_w, i32_w]
               rfl
              refine pure_ (i := 16) (N := some 65) (v := ?_) (a' := ?_) #[true, true, true, true, true, true, true, true, true, true, true, true, true, true, true, true, true, false, false, false] rfl rfl (any_of HT_.out (by kernel_rfl)) (fun _ _ _ h => h) (Or.inl ⟨by rfl, ?_⟩) ?_ ?_
              rotate_left
              ·intro w'
               go_simp
               with_reducible rfl
              rotate_left
              ·simp only [Act.put, sqA, sqZ, sqS, i64_w, i32_w]
               rfl
              refine one_ (i := 17) (N := some 66) #[true, true, true, true, true, true, true, true, true, true, true, true, true, true, true, true, true, true, false, false] rfl rfl (one_of HT_.out (by kernel_rfl)) (by decide) (fun K hK => ?_)
              refine value_ (w1 := ?_) (v := ?_) (by rfl) rfl ?_ ?_
              rotate_left 2
              ·go_simp
               constructor
               ·rfl
               ·rfl
              refine hK.out _ _ ⟨(World.cell?_alloc_lt _ _ _ (World.block_lt_of_cell? _ _ (((HB.out.cell (World.block_lt_of_cell? w _ hw119_0)).trans hw119_0)))).trans (((HB.out.cell (World.block_lt_of_cell? w _ hw119_0)).trans hw119_0)), (World.cell?_alloc_lt _ _ _ (World.block_lt_of_cell? _ _ (((HB.out.cell (World.block_lt_of_cell? w _ hw121_0)).trans hw121_0)))).trans (((HB.out.cell (World.block_lt_of_cell? w _ hw121_0)).trans hw121_0))⟩ (fun hHeld => ?_)
              clear hK K
              refine norm_ (a' := ?_) ?_ ?_
              rotate_left
              ·show Act.put _ (some 66) _ = _
               simp only [Act.put, sqA, sqZ, sqS, i64_w, i32_w]
               rfl
              refine one_ (i := 18) (N := some 67) #[true, true, true, true, true, true, true, true, true, true, true, true, true, true, true, true, true, true, true, false] rfl rfl (one_of HT_.out (by kernel_rfl)) (by decide) (fun K hK => ?_)
              refine Kd.R_append_step (Kd.int .i64) (w0 := w) w.heap.size (by rfl) (.tmp 49) (.tmp 66) 30 2 (.int .i64 0) 8 rfl Try.underlying30 info2 rfl (by decide) (by omega) u8 x8_3 (wrap64 (t120 - t122)) [.int .i64 (wrap64 (t120 - t122))] (fun _ => True) (fun _ => False) rfl rfl ?aP (fun _ hk => hk.elim) ?aF ?aO ?aB ?aS ?aL ?_
              (case aP => exact rfl)
              (case aB => exact (by repeat (first | (with_reducible first | exact HB.out | apply below_alloc | apply pw_below_drewN | apply below_drew1) | exact HB.out)))
              (case aF => exact (fun _ _ => trivial))
              (case aO => exact (by (with_reducible repeat (first | apply Kd.R_alloc | apply Kd.R_drewN | apply Kd.R_drew)); exact HO_8.out))
              (case aS => exact (below_size (by repeat (first | (with_reducible first | exact HB.out | apply below_alloc | apply pw_below_drewN | apply below_drew1) | exact HB.out))))
              (case aL => have := LMc23.out; omega)
              intro v124 w25 ho hb hg hat
              rw [← Ny123.out] at ho
              have n0_ := Aside0.mk (hb)
              have n1_ := Aside0.mk (ho)
              clear HB
              clear HO_8
              have HB := n0_
              have HO125 := n1_
              clear n0_ n1_
              clear ho hb hg hat
              refine hK.out _ _ ⟨((HB.out.cell (World.block_lt_of_cell? w _ hw119_0)).trans hw119_0), ((HB.out.cell (World.block_lt_of_cell? w _ hw121_0)).trans hw121_0)⟩ (fun hHeld => ?_)
              clear hK K
              refine norm_ (a' := ?_) ?_ ?_
              rotate_left
              ·show Act.put _ (some 67) _ = _
               simp only [Act.put, sqA, sqZ, sqS, i64_w, i32_w]
               rfl
              refine pure_ (i := 19) (N := some 8) (v := ?_) (a' := ?_) #[true, true, true, true, true, true, true, true, true, true, true, true, true, true, true, true, true, true, true, true] rfl rfl (any_of HT_.out (by kernel_rfl)) (fun _ _ _ h => h) (Or.inl ⟨by rfl, ?_⟩) ?_ ?_
              rotate_left
              ·intro w'
               go_simp
               with_reducible rfl
              rotate_left
              ·simp only [Act.put, sqA, sqZ, sqS, i64_w, i32_w]
               rfl
              refine done_ (done_of HT_.out (by kernel_rfl)) ?_
              try go_wp2
              go_roundg k3
              case measure => have := HJ3.out; have := HK2.out; have := HK3.out; omega
              case rel => exact ⟨(y123), (ji17), (by first | rfl | (simp; done) | (simp only [← hji17] <;> (first | rfl | simp)) | (simp [*]; done)), H', ⟨by have := HJ3.out; have := HK2.out; have := HK3.out; omega⟩, ⟨by (with_reducible repeat (first | apply Kd.R_alloc | apply Kd.R_drewN | apply Kd.R_drew)); exact HO125.out⟩, ⟨by repeat (first | (with_reducible first | exact HB.out | apply below_alloc | apply pw_below_drewN | apply below_drew1) | exact HB.out)⟩⟩
             ·rw [if_neg c23] at H
              exact absurd H (by simp)
            ·rw [if_neg c21] at H
             exact absurd H (by simp)
           ·rw [if_neg c20] at H
            exact absurd H (by simp)
          ·rw [if_neg c18] at H
           exact absurd H (by simp)
         ·rw [if_neg c16] at H
          have c16b0 : decide ((wrap64 (x10_3 + 1)) < (l2.length : Int)) = false := decide_eq_false c16
          clear c16
          simp only [Option.some.injEq, Prod.mk.injEq] at H
          obtain ⟨rfl, rfl⟩ := H
          go_wp2
          go_ret2
          exact ⟨_, by first | rfl | (simp [errW_none, errW_some] <;> rfl) | (simp [*, errW_none, errW_some] <;> rfl), by (with_reducible repeat (first | apply Kd.R_alloc | apply Kd.R_drewN | apply Kd.R_drew)); exact HO_8.out, by repeat (first | (with_reducible first | exact HB.out | apply below_alloc | apply pw_below_drewN | apply below_drew1) | exact HB.out)⟩

end Go.Proofs.Ytmndffnjejgfoab.Q
