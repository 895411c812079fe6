/- Plain Lean functions with the same answers as the Go functions of this seat, and a proof for each that the Go code comes to just these answers; no condition. Written by a program of this session (the kit's printer, turned). -/
import Derived.Test.YtaophbkedbphnabQx0
import Derived.Test.YtaophbkedbphnabQx7
namespace Go.Proofs.Ytaophbkedbphnab.Q
open Go.RowKit Go.Proofs.YtaophbkedbphnabW.PrintWords Go.Proofs.YtaophbkedbphnabW.PrintLast Go.Proofs.YtaophbkedbphnabW.PrintMore Go.Proofs.YtaophbkedbphnabW.PrintFlt
attribute [local go_sem] cmp_lss cmp_leq cmp_gtr cmp_geq cmp_eql cmp_neq flt_l flt_r fgt_l fgt_r feq_l feq_r fne_l fne_r ord_lt ord_gt ord_eq ord_ne conv_int foi_fold run_store_flt
attribute [local go_sem] max2_int min2_int max_two min_two max_three min_three max_four min_four   -- for this text's walks alone
set_option linter.unusedVariables false
set_option linter.unusedSimpArgs false

/-! ### spec_Vapour: function 55 -/
mutual
def spec_Vapour.j0 : Nat → Nat → Bool → Option (Nat)
 | 0, _, _ => none
 | k + 1, x0, x12 => if x12 = true then ((spec_l1None.f).bind fun t182 => (some t182)) else ((some (([4618562789834491187, 4601663741181105082, 4579390933518564651, 4553525207041591613, 4524267740276402943, 4491732861304072521, 4454304567055758550] : List (Nat)) : List (Nat))).bind fun y184 => (if 6 < (y184.length : Int) then (spec_Vapour.l0 k x0 y184 (rd_F y184 6) 5) else (none)))
def spec_Vapour.l0 : Nat → Nat → List (Nat) → Nat → Int → Option (Nat)
 | 0, _, _, _, _ => none
 | k + 1, x0, x3, x4, x5 => if x5 ≥ 0 then (if 0 ≤ x5 then (if x5 < (x3.length : Int) then (spec_Vapour.l0 k x0 x3 (fadd (rd_F x3 x5) (fmul x0 x4)) (wrap64 (x5 - 1))) else (none)) else (none)) else (some x4)
end
def spec_Vapour.f (k : Nat) (a0 : Nat) : Option (Nat) := if (fgt a0 13855605728582041600 || feq a0 13855605728582041600) = true then (spec_Vapour.j0 k a0 (!(flt a0 4632233691727265792 || feq a0 4632233691727265792))) else (spec_Vapour.j0 k a0 (!false))
theorem spec_Vapour.mono_l : ∀ k, (∀ y0 y1, LeO (spec_Vapour.j0 k y0 y1) (spec_Vapour.j0 (k + 1) y0 y1)) ∧ (∀ y0 y1 y2 y3, LeO (spec_Vapour.l0 k y0 y1 y2 y3) (spec_Vapour.l0 (k + 1) y0 y1 y2 y3))
 | 0 => ⟨fun _ _ r h => by simp [spec_Vapour.j0] at h, fun _ _ _ _ r h => by simp [spec_Vapour.l0] at h⟩
 | k + 1 => by
  obtain ⟨ih0, ih1⟩ := spec_Vapour.mono_l k
  refine ⟨?_, ?_⟩
  ·intro y0 y1
   unfold spec_Vapour.j0
   repeat' first
   | (with_reducible exact ih0 _ _)
   | (with_reducible exact ih1 _ _ _ _)
   | (with_reducible exact LeO.refl _)
   | (with_reducible exact LeO.none _)
   | (with_reducible refine LeO.ite ?_ ?_)
   | (with_reducible refine LeO.bind ?_ (fun _ => ?_))
   | exact ih0 _ _
   | exact ih1 _ _ _ _
   | exact LeO.none _
   | refine LeO.ite ?_ ?_
   | refine LeO.bind ?_ (fun _ => ?_)
  ·intro y0 y1 y2 y3
   unfold spec_Vapour.l0
   repeat' first
   | (with_reducible exact ih0 _ _)
   | (with_reducible exact ih1 _ _ _ _)
   | (with_reducible exact LeO.refl _)
   | (with_reducible exact LeO.none _)
   | (with_reducible refine LeO.ite ?_ ?_)
   | (with_reducible refine LeO.bind ?_ (fun _ => ?_))
   | exact ih0 _ _
   | exact ih1 _ _ _ _
   | exact LeO.none _
   | refine LeO.ite ?_ ?_
   | refine LeO.bind ?_ (fun _ => ?_)
theorem spec_Vapour.mono : ∀ a0 k, LeO (spec_Vapour.f k a0) (spec_Vapour.f (k + 1) a0) := by
 intro a0 k
 obtain ⟨ih0, ih1⟩ := spec_Vapour.mono_l k
 unfold spec_Vapour.f
 repeat' first
   | (with_reducible exact ih0 _ _)
   | (with_reducible exact ih1 _ _ _ _)
   | (with_reducible exact LeO.refl _)
   | (with_reducible exact LeO.none _)
   | (with_reducible refine LeO.ite ?_ ?_)
   | (with_reducible refine LeO.bind ?_ (fun _ => ?_))
   | exact ih0 _ _
   | exact ih1 _ _ _ _
   | exact LeO.none _
   | refine LeO.ite ?_ ?_
   | refine LeO.bind ?_ (fun _ => ?_)
set_option maxHeartbeats 8000000 in
set_option maxRecDepth 100000 in
theorem spec_Vapour.calls (k : Nat) (pa0 : Nat) (a0 : Nat) (r : Nat) (w : World) (h : spec_Vapour.f k a0 = some r) :
  Calls Try.prog 55 #[.float .f64 (un pa0 a0)] w fun e w' => ∃ q0_ : Nat, e = .returned (.float .f64 (un q0_ r)) ∧ Below w.heap.size w w' := by
 have HB := Aside0.mk (Below.refl w.heap.size w)
 have H : (if (fgt a0 13855605728582041600 || feq a0 13855605728582041600) = true then (spec_Vapour.j0 k a0 (!(flt a0 4632233691727265792 || feq a0 4632233691727265792))) else (spec_Vapour.j0 k a0 (!false))) = some r := h
 clear h
 have HC2 := Aside0.mk H
 clear H
 go_enter Try.func55, Try.ntmps55
 go_upto_region 1 with (fail)
 go_cut [12] (fun v12 wc => ∃ (kq : Nat) (x12_1 : Bool), v12 = .bool x12_1 ∧ Aside0 (spec_Vapour.j0 kq a0 x12_1 = some r) ∧ Aside0 (kq ≤ k) ∧ Aside0 (Below w.heap.size w wc))
 case first =>
  have H := HC2.out
  clear HC2
  by_cases c3 : (fgt a0 13855605728582041600 || feq a0 13855605728582041600) = true
  ·rw [if_pos c3] at H
   have c3b0 : (fgt a0 13855605728582041600 || feq a0 13855605728582041600) = true := c3
   clear c3
   (first | rw [c3b0] | (simp only [i64_w, i32_w]; rw [c3b0]) | skip)
   have H' := Aside0.mk H
   clear H
   go_wp2
   go_meet
   case rel => exact ⟨_, (!(flt a0 4632233691727265792 || feq a0 4632233691727265792)), (by first | rfl | (simp; done) | (simp [*]; done)), H', ⟨by first | omega | exact Nat.le_refl _⟩, ⟨by repeat (first | (with_reducible first | exact HB.out | apply below_alloc | apply pw_below_drewN | apply below_drew1) | exact HB.out)⟩⟩
  ·rw [if_neg c3] at H
   have c3b0 : (fgt a0 13855605728582041600 || feq a0 13855605728582041600) = false := by simpa using c3
   clear c3
   (first | rw [c3b0] | (simp only [i64_w, i32_w]; rw [c3b0]) | skip)
   have H' := Aside0.mk H
   clear H
   go_wp2
   go_meet
   case rel => exact ⟨_, (!false), (by first | rfl | (simp; done) | (simp [*]; done)), H', ⟨by first | omega | exact Nat.le_refl _⟩, ⟨by repeat (first | (with_reducible first | exact HB.out | apply below_alloc | apply pw_below_drewN | apply below_drew1) | exact HB.out)⟩⟩
 case rest =>
  clear HC2
  try clear p2
  try clear c3
  try clear c3b0
  obtain ⟨kq, x12_1, rfl, HA, HJ1, HB⟩ := hcut
  cases kq with
  | zero => exact absurd HA.out (by simp [spec_Vapour.j0])
  | succ kj1 =>
   have H := HA.out
   clear HA
   simp only [spec_Vapour.j0] at H
   by_cases c4 : x12_1 = true
   ·subst c4
    have H1 : ((spec_l1None.f).bind fun t182 => (some t182)) = some r := by rw [if_pos rfl] at H; exact H
    clear H
    have H := H1
    clear H1
    replace H := Option.bind_eq_some_iff.mp H
    obtain ⟨t182, A50, H⟩ := H
    replace H : (some t182) = some r := H
    have A5 := Aside0.mk A50
    clear A50
    obtain rfl := Option.some.inj H
    go_wp2_with (first | ((with_reducible refine gate_callee (f := 56) rfl ?_); refine goesL_ (some 13) rfl rfl Try.func56 (by kernel_rfl) rfl #[] rfl (by (try simp only [List.map_toArray, List.map_cons, List.map_nil]); first | done | rfl | (simp only [List.length_drop, List.length_take]; rfl)) ?_; (with_reducible refine (spec_l1None.calls  t182 _ A5.out).mono ?_); rintro e w' ⟨pr183, rfl, ⟨nd, rfl⟩⟩; refine ⟨_, rfl, ?_⟩))
    go_ret
    first | (exact ⟨pr183, by first | rfl | (simp [errW_none, errW_some] <;> rfl) | (simp [*, errW_none, errW_some] <;> rfl), by repeat (first | (with_reducible first | exact HB.out | apply below_alloc | apply pw_below_drewN | apply below_drew1) | exact HB.out)⟩) | (exact ⟨⟨pr183, by first | rfl | (simp [errW_none, errW_some] <;> rfl) | (simp [*, errW_none, errW_some] <;> rfl)⟩, by repeat (first | (with_reducible first | exact HB.out | apply below_alloc | apply pw_below_drewN | apply below_drew1) | exact HB.out)⟩)
   ·replace c4 := Bool.eq_false_iff.mpr c4
    subst c4
    have H1 : ((some (([4618562789834491187, 4601663741181105082, 4579390933518564651, 4553525207041591613, 4524267740276402943, 4491732861304072521, 4454304567055758550] : List (Nat)) : List (Nat))).bind fun y184 => (if 6 < (y184.length : Int) then (spec_Vapour.l0 kj1 a0 y184 (rd_F y184 6) 5) else (none))) = some r := by rw [if_neg (show ¬ (false = true) by decide)] at H; exact H
    clear H
    have H := H1
    clear H1
    obtain ⟨y184, hy184⟩ : ∃ y_ : List (Nat), y_ = (([4618562789834491187, 4601663741181105082, 4579390933518564651, 4553525207041591613, 4524267740276402943, 4491732861304072521, 4454304567055758550] : List (Nat))) := ⟨_, rfl⟩
    replace H : (if 6 < (y184.length : Int) then (spec_Vapour.l0 kj1 a0 y184 (rd_F y184 6) 5) else (none)) = some r := by first | (rw [hy184]; with_reducible exact H) | (have H2_ := (Option.bind_some _ _).symm.trans H; rw [hy184]; with_reducible exact H2_) | (have H2_ := (Option.bind_some _ _).symm.trans H; with_reducible exact H2_) | with_reducible exact H | (rw [hy184]; exact H) | exact H
    have Ny184 := Aside0.mk hy184
    clear hy184
    by_cases c6 : 6 < (y184.length : Int)
    ·rw [if_pos c6] at H
     have c6b0 : decide (6 < (y184.length : Int)) = true := decide_eq_true c6
     have c6b1 : decide (6 < y184.length) = true := decide_eq_true (by omega)
     clear c6
     have H' := Aside0.mk H
     clear H
     go_wp2_with (first | ((with_reducible refine gate_dst (N := 14) rfl ?_); (try (refine gate_guard (by rfl) ?_; dsimp only)); refine Kd.R_lit Kd.flt _ 34 ?hg (N := 14) ?hd (xs := ([4618562789834491187, 4601663741181105082, 4579390933518564651, 4553525207041591613, 4524267740276402943, 4491732861304072521, 4454304567055758550] : List (Nat))) (inner := [.float .f64 4618562789834491187, .float .f64 4601663741181105082, .float .f64 4579390933518564651, .float .f64 4553525207041591613, .float .f64 4524267740276402943, .float .f64 4491732861304072521, .float .f64 4454304567055758550]) (ok := fun _ => True) (okp := fun _ => True) ?hr ?hp (fun _ hk => hk) trivial (Below.refl _ _) (Nat.le_refl _) (by simp) ?_; (case hd => rfl); (case hg => rfl); (case hr => first | (go_simp; done) | (go_simp; rfl)); (case hp => exact (Reps.one (show Kd.M Kd.flt _ _ _ 4618562789834491187 [.float .f64 4618562789834491187] from (by first | exact ⟨_, rfl⟩ | exact ⟨0, rfl⟩)) (Reps.one (show Kd.M Kd.flt _ _ _ 4601663741181105082 [.float .f64 4601663741181105082] from (by first | exact ⟨_, rfl⟩ | exact ⟨0, rfl⟩)) (Reps.one (show Kd.M Kd.flt _ _ _ 4579390933518564651 [.float .f64 4579390933518564651] from (by first | exact ⟨_, rfl⟩ | exact ⟨0, rfl⟩)) (Reps.one (show Kd.M Kd.flt _ _ _ 4553525207041591613 [.float .f64 4553525207041591613] from (by first | exact ⟨_, rfl⟩ | exact ⟨0, rfl⟩)) (Reps.one (show Kd.M Kd.flt _ _ _ 4524267740276402943 [.float .f64 4524267740276402943] from (by first | exact ⟨_, rfl⟩ | exact ⟨0, rfl⟩)) (Reps.one (show Kd.M Kd.flt _ _ _ 4491732861304072521 [.float .f64 4491732861304072521] from (by first | exact ⟨_, rfl⟩ | exact ⟨0, rfl⟩)) (Reps.one (show Kd.M Kd.flt _ _ _ 4454304567055758550 [.float .f64 4454304567055758550] from (by first | exact ⟨_, rfl⟩ | exact ⟨0, rfl⟩)) (Reps.none _ _))))))))); intro v185 w7 ho8 hb hg_ hnew_; clear hg_ hnew_; (first | rw [← Ny184.out] at ho8 | (simp only [Int.reduceToNat] at ho8; rw [← Ny184.out] at ho8)); have n0_ := Aside0.mk (Kd.R_lower ho8 (below_size (by repeat (first | (with_reducible first | exact HB.out | apply below_alloc | apply pw_below_drewN | apply below_drew1) | exact HB.out)))); have n1_ := Aside0.mk (below_step (by repeat (first | (with_reducible first | exact HB.out | apply below_alloc | apply pw_below_drewN | apply below_drew1) | exact HB.out)) hb); clear HB; have HO186 := n0_; have HB := n1_; clear n0_ n1_; clear hb ho8; obtain ⟨Ao9, co9, eo9⟩ := Kd.R_slice HO186.out; subst eo9; have p187 : 0 ≤ (6 : Int) := (by omega); have q187 : 6 < (y184.length : Int) := of_decide_eq_true (by first | (with_reducible assumption) | assumption); obtain ⟨ad187, pf187_0, e187, hx187_0⟩ := at_F (Kd.R_reads' HO186.out).2.2 6 p187 q187; cases e187; (try simp only [show (6 : Int).toNat = 6 from rfl, Nat.reduceMul, Nat.reduceEqDiff, Go.Addr.add, ↓reduceIte] at hx187_0); have qi187 : (6 < y184.length) = True := eq_true (by omega); (try rw [show ((6 : Int)).toNat = 6 from rfl] at hx187_0); replace p187 := eq_true p187; replace q187 := eq_true q187))
     go_loopg [4, 5] kj1 (fun kq v4 v5 w' => ∃ (x4_2 : Nat) (x5_2 : Int) (pg4 : Nat), v4 = .float .f64 (un pg4 x4_2) ∧ v5 = .int .i64 x5_2 ∧ Aside0 (spec_Vapour.l0 kq a0 y184 x4_2 x5_2 = some r) ∧ Aside0 (kq ≤ kj1) ∧ Aside0 (Kd.R Kd.flt 34 w' w.heap.size (fun _ => True) (.slice (some ad187) y184.length co9) y184) ∧ Aside0 (Below w.heap.size w w'))
     case atStart => exact ⟨(rd_F y184 6), (5), (pf187_0), (by first | rfl | (simp; done) | (simp [*]; done)), (by first | rfl | (simp; done) | (simp [*]; done)), H', ⟨Nat.le_refl _⟩, ⟨by (with_reducible repeat (first | apply Kd.R_alloc | apply Kd.R_drewN | apply Kd.R_drew)); exact HO186.out⟩, ⟨by repeat (first | (with_reducible first | exact HB.out | apply below_alloc | apply pw_below_drewN | apply below_drew1) | exact HB.out)⟩⟩
     case round =>
      clear H'
      try clear p1
      try clear q1
      try clear hx1
      try clear qi1
      try clear p2
      try clear c3
      try clear c3b0
      try clear c4
      try clear c5
      try clear c6
      try clear c6b0
      try clear c6b1
      try clear hx187_0
      try clear p187
      try clear p2
      try clear q187
      obtain ⟨x4_2, x5_2, pg4, rfl, rfl, HA, HK2, HO_3, HB⟩ := hrel
      cases gk with
      | zero => exact absurd HA.out (by simp [spec_Vapour.l0])
      | succ k2 =>
       have H := HA.out
       clear HA
       simp only [spec_Vapour.l0] at H
       by_cases c10 : x5_2 ≥ 0
       ·rw [if_pos c10] at H
        have c10b0 : decide (0 ≤ x5_2) = true := decide_eq_true c10
        clear c10
        by_cases c11 : 0 ≤ x5_2
        ·rw [if_pos c11] at H
         have c11b0 : decide (0 ≤ x5_2) = true := decide_eq_true c11
         clear c11
         by_cases c12 : x5_2 < (y184.length : Int)
         ·rw [if_pos c12] at H
          have c12b0 : decide (x5_2 < (y184.length : Int)) = true := decide_eq_true c12
          clear c12
          have H' := Aside0.mk H
          clear H
          go_wp2_with (first | ((with_reducible refine gate_dst (N := 24) rfl ?_); (try (refine gate_guard (by rfl) ?_; dsimp only)); refine fop_eventB rfl (N := 24) rfl (op := .mul) rfl rfl pa0 a0 pg4 x4_2 rfl rfl ?hA ?hB fmul rfl ?_; (case hA => first | rfl | exact (un_zero _).symm); (case hB => first | rfl | exact (un_zero _).symm); intro pb188 w13 hb; have n0_ := Aside0.mk (Kd.R_below (by (with_reducible repeat (first | apply Kd.R_alloc | apply Kd.R_drewN | apply Kd.R_drew)); exact HO_3.out) hb); have n1_ := Aside0.mk (below_step (by repeat (first | (with_reducible first | exact HB.out | apply below_alloc | apply pw_below_drewN | apply below_drew1) | exact HB.out)) hb); clear HO_3; clear HB; have HO_3 := n0_; have HB := n1_; clear n0_ n1_; (try clear hb); have p189 : 0 ≤ (x5_2 : Int) := of_decide_eq_true (by first | (with_reducible assumption) | assumption); have q189 : x5_2 < (y184.length : Int) := of_decide_eq_true (by first | (with_reducible assumption) | assumption); obtain ⟨ad189, pf189_0, e189, hx189_0⟩ := at_F (Kd.R_reads' HO_3.out).2.2 x5_2 p189 q189; obtain rfl : ad187 = ad189 := (by injection e189); replace p189 := eq_true p189; replace q189 := eq_true q189) | ((with_reducible refine gate_dst (N := 30) rfl ?_); (try (refine gate_guard (by rfl) ?_; dsimp only)); refine fop_eventB rfl (N := 30) rfl (op := .add) rfl rfl pf189_0 (rd_F y184 x5_2) pb188 (fmul a0 x4_2) rfl rfl ?hA ?hB fadd rfl ?_; (case hA => first | rfl | exact (un_zero _).symm); (case hB => first | rfl | exact (un_zero _).symm); intro pb190 w14 hb; have n0_ := Aside0.mk (Kd.R_below (by (with_reducible repeat (first | apply Kd.R_alloc | apply Kd.R_drewN | apply Kd.R_drew)); exact HO_3.out) hb); have n1_ := Aside0.mk (below_step (by repeat (first | (with_reducible first | exact HB.out | apply below_alloc | apply pw_below_drewN | apply below_drew1) | exact HB.out)) hb); clear HO_3; clear HB; have HO_3 := n0_; have HB := n1_; clear n0_ n1_; (try clear hb)))
          go_roundg k2
          case measure => have := HJ1.out; have := HK2.out; omega
          case rel => exact ⟨(fadd (rd_F y184 x5_2) (fmul a0 x4_2)), (wrap64 (x5_2 - 1)), (pb190), (by first | rfl | (simp; done) | (simp [*]; done)), (by first | rfl | (simp; done) | (simp [*]; done)), H', ⟨by have := HJ1.out; have := HK2.out; omega⟩, ⟨by (with_reducible repeat (first | apply Kd.R_alloc | apply Kd.R_drewN | apply Kd.R_drew)); exact HO_3.out⟩, ⟨by repeat (first | (with_reducible first | exact HB.out | apply below_alloc | apply pw_below_drewN | apply below_drew1) | exact HB.out)⟩⟩
         ·rw [if_neg c12] at H
          exact absurd H (by simp)
        ·rw [if_neg c11] at H
         exact absurd H (by simp)
       ·rw [if_neg c10] at H
        have c10b0 : decide (0 ≤ x5_2) = false := decide_eq_false c10
        clear c10
        obtain rfl := Option.some.inj H
        go_wp2
        go_ret
        first | (exact ⟨pg4, by first | rfl | (simp [errW_none, errW_some] <;> rfl) | (simp [*, errW_none, errW_some] <;> rfl), by repeat (first | (with_reducible first | exact HB.out | apply below_alloc | apply pw_below_drewN | apply below_drew1) | exact HB.out)⟩) | (exact ⟨⟨pg4, by first | rfl | (simp [errW_none, errW_some] <;> rfl) | (simp [*, errW_none, errW_some] <;> rfl)⟩, by repeat (first | (with_reducible first | exact HB.out | apply below_alloc | apply pw_below_drewN | apply below_drew1) | exact HB.out)⟩)
    ·rw [if_neg c6] at H
     exact absurd H (by simp)

end Go.Proofs.Ytaophbkedbphnab.Q
