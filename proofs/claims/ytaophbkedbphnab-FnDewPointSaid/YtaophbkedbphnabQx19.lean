/- Plain Lean functions with the same answers as the Go functions of this seat, and a proof for each that the Go code comes to just these answers; no condition. Written by a program of this session (the kit's printer, turned). -/
import Derived.Test.YtaophbkedbphnabQx0
import Derived.Test.YtaophbkedbphnabQx18
namespace Go.Proofs.Ytaophbkedbphnab.Q
open Go.RowKit Go.Proofs.YtaophbkedbphnabW.PrintWords Go.Proofs.YtaophbkedbphnabW.PrintLast Go.Proofs.YtaophbkedbphnabW.PrintMore Go.Proofs.YtaophbkedbphnabW.PrintFlt
attribute [local go_sem] cmp_lss cmp_leq cmp_gtr cmp_geq cmp_eql cmp_neq flt_l flt_r fgt_l fgt_r feq_l feq_r fne_l fne_r ord_lt ord_gt ord_eq ord_ne conv_int foi_fold run_store_flt
attribute [local go_sem] max2_int min2_int max_two min_two max_three min_three max_four min_four   -- for this text's walks alone
set_option linter.unusedVariables false
set_option linter.unusedSimpArgs false

/-! ### impl_Vapour: function 28 -/
mutual
def impl_Vapour.j0 : Nat → Nat → Bool → Option (Nat)
 | 0, _, _ => none
 | k + 1, x0, x12 => if x12 = true then ((impl_nan.f).bind fun t204 => (some t204)) else ((some (([4491732861304072521, 4524267740276402943, 4553525207041591613, 4579390933518564651, 4601663741181105082] : List (Nat)) : List (Nat))).bind fun y207 => (impl_Vapour.l0 k x0 (fmul x0 4454304567055758550) y207 (y207.length : Int) 0))
def impl_Vapour.l0 : Nat → Nat → Nat → List (Nat) → Int → Int → Option (Nat)
 | 0, _, _, _, _, _ => none
 | k + 1, x0, x3, x16, x17, x18 => if x18 < x17 then (if 0 ≤ x18 then (if x18 < (x16.length : Int) then (impl_Vapour.l0 k x0 (fmul x0 (fadd (rd_F x16 x18) x3)) x16 x17 (wrap64 (x18 + 1))) else (none)) else (none)) else (some (fadd 4618562789834491187 x3))
end
def impl_Vapour.f (k : Nat) (a0 : Nat) : Option (Nat) := if (fgt a0 13855605728582041600 || feq a0 13855605728582041600) = true then (impl_Vapour.j0 k a0 (!(flt a0 4632233691727265792 || feq a0 4632233691727265792))) else (impl_Vapour.j0 k a0 (!false))
theorem impl_Vapour.mono_l : ∀ k, (∀ y0 y1, LeO (impl_Vapour.j0 k y0 y1) (impl_Vapour.j0 (k + 1) y0 y1)) ∧ (∀ y0 y1 y2 y3 y4, LeO (impl_Vapour.l0 k y0 y1 y2 y3 y4) (impl_Vapour.l0 (k + 1) y0 y1 y2 y3 y4))
 | 0 => ⟨fun _ _ r h => by simp [impl_Vapour.j0] at h, fun _ _ _ _ _ r h => by simp [impl_Vapour.l0] at h⟩
 | k + 1 => by
  obtain ⟨ih0, ih1⟩ := impl_Vapour.mono_l k
  refine ⟨?_, ?_⟩
  ·intro y0 y1
   unfold impl_Vapour.j0
   repeat' first
   | (with_reducible exact ih0 _ _)
   | (with_reducible exact ih1 _ _ _ _ _)
   | (with_reducible exact LeO.refl _)
   | (with_reducible exact LeO.none _)
   | (with_reducible refine LeO.ite ?_ ?_)
   | (with_reducible refine LeO.bind ?_ (fun _ => ?_))
   | exact ih0 _ _
   | exact ih1 _ _ _ _ _
   | exact LeO.none _
   | refine LeO.ite ?_ ?_
   | refine LeO.bind ?_ (fun _ => ?_)
  ·intro y0 y1 y2 y3 y4
   unfold impl_Vapour.l0
   repeat' first
   | (with_reducible exact ih0 _ _)
   | (with_reducible exact ih1 _ _ _ _ _)
   | (with_reducible exact LeO.refl _)
   | (with_reducible exact LeO.none _)
   | (with_reducible refine LeO.ite ?_ ?_)
   | (with_reducible refine LeO.bind ?_ (fun _ => ?_))
   | exact ih0 _ _
   | exact ih1 _ _ _ _ _
   | exact LeO.none _
   | refine LeO.ite ?_ ?_
   | refine LeO.bind ?_ (fun _ => ?_)
theorem impl_Vapour.mono : ∀ a0 k, LeO (impl_Vapour.f k a0) (impl_Vapour.f (k + 1) a0) := by
 intro a0 k
 obtain ⟨ih0, ih1⟩ := impl_Vapour.mono_l k
 unfold impl_Vapour.f
 repeat' first
   | (with_reducible exact ih0 _ _)
   | (with_reducible exact ih1 _ _ _ _ _)
   | (with_reducible exact LeO.refl _)
   | (with_reducible exact LeO.none _)
   | (with_reducible refine LeO.ite ?_ ?_)
   | (with_reducible refine LeO.bind ?_ (fun _ => ?_))
   | exact ih0 _ _
   | exact ih1 _ _ _ _ _
   | exact LeO.none _
   | refine LeO.ite ?_ ?_
   | refine LeO.bind ?_ (fun _ => ?_)
set_option maxHeartbeats 8000000 in
set_option maxRecDepth 100000 in
theorem impl_Vapour.calls (k : Nat) (pa0 : Nat) (a0 : Nat) (r : Nat) (w : World) (h : impl_Vapour.f k a0 = some r) :
  Calls Try.prog 28 #[.float .f64 (un pa0 a0)] w fun e w' => ∃ q0_ : Nat, e = .returned (.float .f64 (un q0_ r)) ∧ Below w.heap.size w w' := by
 have HB := Aside0.mk (Below.refl w.heap.size w)
 have H : (if (fgt a0 13855605728582041600 || feq a0 13855605728582041600) = true then (impl_Vapour.j0 k a0 (!(flt a0 4632233691727265792 || feq a0 4632233691727265792))) else (impl_Vapour.j0 k a0 (!false))) = some r := h
 clear h
 have HC2 := Aside0.mk H
 clear H
 go_enter Try.func28, Try.ntmps28
 go_upto_region 1 with (fail)
 go_cut [12] (fun v12 wc => ∃ (kq : Nat) (x12_1 : Bool), v12 = .bool x12_1 ∧ Aside0 (impl_Vapour.j0 kq a0 x12_1 = some r) ∧ Aside0 (kq ≤ k) ∧ Aside0 (Below w.heap.size w wc))
 case first =>
  have H := HC2.out
  clear HC2
  by_cases c3 : (fgt a0 13855605728582041600 || feq a0 13855605728582041600) = true
  ·rw [if_pos c3] at H
   have c3b0 : (fgt a0 13855605728582041600 || feq a0 13855605728582041600) = true := c3
   clear c3
   (first | rw [c3b0] | (simp only [i64_w, i32_w]; rw [c3b0]) | skip)
   have H' := Aside0.mk H
   clear H
   go_wp2
   go_meet
   case rel => exact ⟨_, (!(flt a0 4632233691727265792 || feq a0 4632233691727265792)), (by first | rfl | (simp; done) | (simp [*]; done)), H', ⟨by first | omega | exact Nat.le_refl _⟩, ⟨by repeat (first | (with_reducible first | exact HB.out | apply below_alloc | apply pw_below_drewN | apply below_drew1) | exact HB.out)⟩⟩
  ·rw [if_neg c3] at H
   have c3b0 : (fgt a0 13855605728582041600 || feq a0 13855605728582041600) = false := by simpa using c3
   clear c3
   (first | rw [c3b0] | (simp only [i64_w, i32_w]; rw [c3b0]) | skip)
   have H' := Aside0.mk H
   clear H
   go_wp2
   go_meet
   case rel => exact ⟨_, (!false), (by first | rfl | (simp; done) | (simp [*]; done)), H', ⟨by first | omega | exact Nat.le_refl _⟩, ⟨by repeat (first | (with_reducible first | exact HB.out | apply below_alloc | apply pw_below_drewN | apply below_drew1) | exact HB.out)⟩⟩
 case rest =>
  clear HC2
  try clear c2
  try clear p2
  try clear c3
  try clear c3b0
  obtain ⟨kq, x12_1, rfl, HA, HJ1, HB⟩ := hcut
  cases kq with
  | zero => exact absurd HA.out (by simp [impl_Vapour.j0])
  | succ kj1 =>
   have H := HA.out
   clear HA
   simp only [impl_Vapour.j0] at H
   by_cases c4 : x12_1 = true
   ·subst c4
    have H1 : ((impl_nan.f).bind fun t204 => (some t204)) = some r := by rw [if_pos rfl] at H; exact H
    clear H
    have H := H1
    clear H1
    replace H := Option.bind_eq_some_iff.mp H
    obtain ⟨t204, A50, H⟩ := H
    replace H : (some t204) = some r := H
    have A5 := Aside0.mk A50
    clear A50
    obtain rfl := Option.some.inj H
    go_wp2_with (first | ((with_reducible refine gate_callee (f := 45) rfl ?_); refine goesL_ (some 13) rfl rfl Try.func45 (by kernel_rfl) rfl #[] rfl (by (try simp only [List.map_toArray, List.map_cons, List.map_nil]); first | done | rfl | (simp only [List.length_drop, List.length_take]; rfl)) ?_; (with_reducible refine (impl_nan.calls  t204 _ A5.out).mono ?_); rintro e w' ⟨pr205, rfl, ⟨nd, rfl⟩⟩; refine ⟨_, rfl, ?_⟩))
    go_ret
    first | (exact ⟨pr205, by first | rfl | (simp [errW_none, errW_some] <;> rfl) | (simp [*, errW_none, errW_some] <;> rfl), by repeat (first | (with_reducible first | exact HB.out | apply below_alloc | apply pw_below_drewN | apply below_drew1) | exact HB.out)⟩) | (exact ⟨⟨pr205, by first | rfl | (simp [errW_none, errW_some] <;> rfl) | (simp [*, errW_none, errW_some] <;> rfl)⟩, by repeat (first | (with_reducible first | exact HB.out | apply below_alloc | apply pw_below_drewN | apply below_drew1) | exact HB.out)⟩)
   ·replace c4 := Bool.eq_false_iff.mpr c4
    subst c4
    have H1 : ((some (([4491732861304072521, 4524267740276402943, 4553525207041591613, 4579390933518564651, 4601663741181105082] : List (Nat)) : List (Nat))).bind fun y207 => (impl_Vapour.l0 kj1 a0 (fmul a0 4454304567055758550) y207 (y207.length : Int) 0)) = some r := by rw [if_neg (show ¬ (false = true) by decide)] at H; exact H
    clear H
    have H := H1
    clear H1
    obtain ⟨y207, hy207⟩ : ∃ y_ : List (Nat), y_ = (([4491732861304072521, 4524267740276402943, 4553525207041591613, 4579390933518564651, 4601663741181105082] : List (Nat))) := ⟨_, rfl⟩
    replace H : (impl_Vapour.l0 kj1 a0 (fmul a0 4454304567055758550) y207 (y207.length : Int) 0) = some r := by first | (rw [hy207]; with_reducible exact H) | (have H2_ := (Option.bind_some _ _).symm.trans H; rw [hy207]; with_reducible exact H2_) | (have H2_ := (Option.bind_some _ _).symm.trans H; with_reducible exact H2_) | with_reducible exact H | (rw [hy207]; exact H) | exact H
    have Ny207 := Aside0.mk hy207
    clear hy207
    have H' := Aside0.mk H
    clear H
    go_wp2_with (first | ((with_reducible refine gate_dst (N := 15) rfl ?_); (try (refine gate_guard (by rfl) ?_; dsimp only)); refine fop_eventB rfl (N := 15) rfl (op := .mul) rfl rfl pa0 a0 0 4454304567055758550 rfl rfl ?hA ?hB fmul rfl ?_; (case hA => first | rfl | exact (un_zero _).symm); (case hB => first | rfl | exact (un_zero _).symm); intro pb206 w6 hb; have n0_ := Aside0.mk (below_step (by repeat (first | (with_reducible first | exact HB.out | apply below_alloc | apply pw_below_drewN | apply below_drew1) | exact HB.out)) hb); clear HB; have HB := n0_; clear n0_; (try clear hb)) | ((with_reducible refine gate_dst (N := 16) rfl ?_); (try (refine gate_guard (by rfl) ?_; dsimp only)); refine Kd.R_lit Kd.flt _ 34 ?hg (N := 16) ?hd (xs := ([4491732861304072521, 4524267740276402943, 4553525207041591613, 4579390933518564651, 4601663741181105082] : List (Nat))) (inner := [.float .f64 4491732861304072521, .float .f64 4524267740276402943, .float .f64 4553525207041591613, .float .f64 4579390933518564651, .float .f64 4601663741181105082]) (ok := fun _ => True) (okp := fun _ => True) ?hr ?hp (fun _ hk => hk) trivial (Below.refl _ _) (Nat.le_refl _) (by simp) ?_; (case hd => rfl); (case hg => rfl); (case hr => first | (go_simp; done) | (go_simp; rfl)); (case hp => exact (Reps.one (show Kd.M Kd.flt _ _ _ 4491732861304072521 [.float .f64 4491732861304072521] from (by first | exact ⟨_, rfl⟩ | exact ⟨0, rfl⟩)) (Reps.one (show Kd.M Kd.flt _ _ _ 4524267740276402943 [.float .f64 4524267740276402943] from (by first | exact ⟨_, rfl⟩ | exact ⟨0, rfl⟩)) (Reps.one (show Kd.M Kd.flt _ _ _ 4553525207041591613 [.float .f64 4553525207041591613] from (by first | exact ⟨_, rfl⟩ | exact ⟨0, rfl⟩)) (Reps.one (show Kd.M Kd.flt _ _ _ 4579390933518564651 [.float .f64 4579390933518564651] from (by first | exact ⟨_, rfl⟩ | exact ⟨0, rfl⟩)) (Reps.one (show Kd.M Kd.flt _ _ _ 4601663741181105082 [.float .f64 4601663741181105082] from (by first | exact ⟨_, rfl⟩ | exact ⟨0, rfl⟩)) (Reps.none _ _))))))); intro v208 w7 ho8 hb hg_ hnew_; clear hg_ hnew_; (first | rw [← Ny207.out] at ho8 | (simp only [Int.reduceToNat] at ho8; rw [← Ny207.out] at ho8)); have n0_ := Aside0.mk (Kd.R_lower ho8 (below_size (by repeat (first | (with_reducible first | exact HB.out | apply below_alloc | apply pw_below_drewN | apply below_drew1) | exact HB.out)))); have n1_ := Aside0.mk (below_step (by repeat (first | (with_reducible first | exact HB.out | apply below_alloc | apply pw_below_drewN | apply below_drew1) | exact HB.out)) hb); clear HB; have HO209 := n0_; have HB := n1_; clear n0_ n1_; clear hb ho8; obtain ⟨Ao9, co9, eo9⟩ := Kd.R_slice HO209.out; subst eo9))
    go_loopg [3, 18] kj1 (fun kq v3 v18 w' => ∃ (x3_2 : Nat) (x18_2 : Int) (pg3 : Nat), v3 = .float .f64 (un pg3 x3_2) ∧ v18 = .int .i64 x18_2 ∧ Aside0 (impl_Vapour.l0 kq a0 x3_2 y207 (y207.length : Int) x18_2 = some r) ∧ Aside0 (kq ≤ kj1) ∧ Aside0 (Kd.R Kd.flt 34 w' w.heap.size (fun _ => True) (.slice Ao9 y207.length co9) y207) ∧ Aside0 (Below w.heap.size w w'))
    case atStart => exact ⟨(fmul a0 4454304567055758550), (0), (pb206), (by first | rfl | (simp; done) | (simp [*]; done)), (by first | rfl | (simp; done) | (simp [*]; done)), H', ⟨Nat.le_refl _⟩, ⟨by (with_reducible repeat (first | apply Kd.R_alloc | apply Kd.R_drewN | apply Kd.R_drew)); exact HO209.out⟩, ⟨by repeat (first | (with_reducible first | exact HB.out | apply below_alloc | apply pw_below_drewN | apply below_drew1) | exact HB.out)⟩⟩
    case round =>
     clear H'
     try clear c2
     try clear p2
     try clear c3
     try clear c3b0
     try clear c4
     try clear p2
     obtain ⟨x3_2, x18_2, pg3, rfl, rfl, HA, HK2, HO_16, HB⟩ := hrel
     cases gk with
     | zero => exact absurd HA.out (by simp [impl_Vapour.l0])
     | succ k2 =>
      have H := HA.out
      clear HA
      simp only [impl_Vapour.l0] at H
      by_cases c10 : x18_2 < (y207.length : Int)
      ·rw [if_pos c10] at H
       have c10b0 : decide (x18_2 < (y207.length : Int)) = true := decide_eq_true c10
       clear c10
       by_cases c11 : 0 ≤ x18_2
       ·rw [if_pos c11] at H
        have c11b0 : decide (0 ≤ x18_2) = true := decide_eq_true c11
        clear c11
        by_cases c12 : x18_2 < (y207.length : Int)
        ·rw [if_pos c12] at H
         have c12b0 : decide (x18_2 < (y207.length : Int)) = true := decide_eq_true c12
         clear c12
         have H' := Aside0.mk H
         clear H
         have p210 : 0 ≤ (x18_2 : Int) := of_decide_eq_true (by first | (with_reducible assumption) | assumption)
         have q210 : x18_2 < (y207.length : Int) := of_decide_eq_true (by first | (with_reducible assumption) | assumption)
         obtain ⟨ad210, pf210_0, e210, hx210_0⟩ := at_F (Kd.R_reads' HO_16.out).2.2 x18_2 p210 q210
         cases e210
         replace p210 := eq_true p210
         replace q210 := eq_true q210
         go_wp2_with (first | ((with_reducible refine gate_dst (N := 24) rfl ?_); (try (refine gate_guard (by rfl) ?_; dsimp only)); refine fop_eventB rfl (N := 24) rfl (op := .add) rfl rfl pf210_0 (rd_F y207 x18_2) pg3 x3_2 rfl rfl ?hA ?hB fadd rfl ?_; (case hA => first | rfl | exact (un_zero _).symm); (case hB => first | rfl | exact (un_zero _).symm); intro pb211 w13 hb; have n0_ := Aside0.mk (Kd.R_below (by (with_reducible repeat (first | apply Kd.R_alloc | apply Kd.R_drewN | apply Kd.R_drew)); exact HO_16.out) hb); have n1_ := Aside0.mk (below_step (by repeat (first | (with_reducible first | exact HB.out | apply below_alloc | apply pw_below_drewN | apply below_drew1) | exact HB.out)) hb); clear HO_16; clear HB; have HO_16 := n0_; have HB := n1_; clear n0_ n1_; (try clear hb)) | ((with_reducible refine gate_dst (N := 27) rfl ?_); (try (refine gate_guard (by rfl) ?_; dsimp only)); refine fop_eventB rfl (N := 27) rfl (op := .mul) rfl rfl pa0 a0 pb211 (fadd (rd_F y207 x18_2) x3_2) rfl rfl ?hA ?hB fmul rfl ?_; (case hA => first | rfl | exact (un_zero _).symm); (case hB => first | rfl | exact (un_zero _).symm); intro pb212 w14 hb; have n0_ := Aside0.mk (Kd.R_below (by (with_reducible repeat (first | apply Kd.R_alloc | apply Kd.R_drewN | apply Kd.R_drew)); exact HO_16.out) hb); have n1_ := Aside0.mk (below_step (by repeat (first | (with_reducible first | exact HB.out | apply below_alloc | apply pw_below_drewN | apply below_drew1) | exact HB.out)) hb); clear HO_16; clear HB; have HO_16 := n0_; have HB := n1_; clear n0_ n1_; (try clear hb)))
         go_roundg k2
         case measure => have := HJ1.out; have := HK2.out; omega
         case rel => exact ⟨(fmul a0 (fadd (rd_F y207 x18_2) x3_2)), (wrap64 (x18_2 + 1)), (pb212), (by first | rfl | (simp; done) | (simp [*]; done)), (by first | rfl | (simp; done) | (simp [*]; done)), H', ⟨by have := HJ1.out; have := HK2.out; omega⟩, ⟨by (with_reducible repeat (first | apply Kd.R_alloc | apply Kd.R_drewN | apply Kd.R_drew)); exact HO_16.out⟩, ⟨by repeat (first | (with_reducible first | exact HB.out | apply below_alloc | apply pw_below_drewN | apply below_drew1) | exact HB.out)⟩⟩
        ·rw [if_neg c12] at H
         exact absurd H (by simp)
       ·rw [if_neg c11] at H
        exact absurd H (by simp)
      ·rw [if_neg c10] at H
       have c10b0 : decide (x18_2 < (y207.length : Int)) = false := decide_eq_false c10
       clear c10
       obtain rfl := Option.some.inj H
       go_wp2_with (first | ((with_reducible refine gate_dst (N := 30) rfl ?_); (try (refine gate_guard (by rfl) ?_; dsimp only)); refine fop_eventB rfl (N := 30) rfl (op := .add) rfl rfl 0 4618562789834491187 pg3 x3_2 rfl rfl ?hA ?hB fadd rfl ?_; (case hA => first | rfl | exact (un_zero _).symm); (case hB => first | rfl | exact (un_zero _).symm); intro pb213 w15 hb; have n0_ := Aside0.mk (Kd.R_below (by (with_reducible repeat (first | apply Kd.R_alloc | apply Kd.R_drewN | apply Kd.R_drew)); exact HO_16.out) hb); have n1_ := Aside0.mk (below_step (by repeat (first | (with_reducible first | exact HB.out | apply below_alloc | apply pw_below_drewN | apply below_drew1) | exact HB.out)) hb); clear HO_16; clear HB; have HO_16 := n0_; have HB := n1_; clear n0_ n1_; (try clear hb)))
       go_ret
       first | (exact ⟨pb213, by first | rfl | (simp [errW_none, errW_some] <;> rfl) | (simp [*, errW_none, errW_some] <;> rfl), by repeat (first | (with_reducible first | exact HB.out | apply below_alloc | apply pw_below_drewN | apply below_drew1) | exact HB.out)⟩) | (exact ⟨⟨pb213, by first | rfl | (simp [errW_none, errW_some] <;> rfl) | (simp [*, errW_none, errW_some] <;> rfl)⟩, by repeat (first | (with_reducible first | exact HB.out | apply below_alloc | apply pw_below_drewN | apply below_drew1) | exact HB.out)⟩)

end Go.Proofs.Ytaophbkedbphnab.Q
