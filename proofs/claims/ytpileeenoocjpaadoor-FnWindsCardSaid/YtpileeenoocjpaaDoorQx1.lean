/- Plain Lean functions with the same answers as the Go functions of this seat, and a proof for each that the Go code comes to just these answers; no condition. Written by a program of this session (the kit's printer, turned). -/
import Derived.Test.YtpileeenoocjpaaDoorQx0
namespace Go.Proofs.YtpileeenoocjpaaDoor.Q
open Go.RowKit Go.Proofs.YtpileeenoocjpaaDoorW.PrintWords Go.Proofs.YtpileeenoocjpaaDoorW.PrintLast Go.Proofs.YtpileeenoocjpaaDoorW.PrintMore Go.Proofs.YtpileeenoocjpaaDoorW.PrintFlt
attribute [local go_sem] cmp_lss cmp_leq cmp_gtr cmp_geq cmp_eql cmp_neq flt_l flt_r fgt_l fgt_r feq_l feq_r fne_l fne_r ord_lt ord_gt ord_eq ord_ne conv_int foi_fold run_store_flt
attribute [local go_sem] max2_int min2_int max_two min_two max_three min_three max_four min_four   -- for this text's walks alone
set_option linter.unusedVariables false
set_option linter.unusedSimpArgs false

-- NOT PRINTED: function 78 (math_Float64frombits)

/-! ### math_NaN: function 70 -/
def math_NaN.f : Option (Nat) := some qnan
set_option maxHeartbeats 8000000 in
theorem math_NaN.calls (r : Nat) (w : World) (h : math_NaN.f = some r) : Calls Tryd.prog 70 #[] w fun e w' => ∃ q0_ : Nat, e = .returned (.float .f64 (un q0_ r)) ∧ Drawn0 w w' := by
 obtain rfl := Option.some.inj h
 go_enter Tryd.func70, Tryd.ntmps70
 go_wp2_with fail
 rw [run_extc Tryd.func78 (by kernel_rfl) rfl (by kernel_rfl) (e := Extern.MathFloatBits.float64frombits) (by kernel_rfl) _ (v := .float .f64 9221120237041090561) rfl]
 go_wp2
 go_ret
 exact ⟨0, by first | rfl | exact congrArg (fun z => Ending.returned (Value.float .f64 z)) (un_zero _).symm, by repeat (first | exact Drawn0.refl _ | apply Drawn0.step)⟩

/-! ### impl_nan: function 49 -/
def impl_nan.f  : Option (Nat) := (math_NaN.f).bind fun t101 => (some t101)
set_option maxHeartbeats 8000000 in
set_option maxRecDepth 100000 in
theorem impl_nan.calls  (r : Nat) (w : World) (h : impl_nan.f  = some r) :
  Calls Tryd.prog 49 #[] w fun e w' => ∃ q0_ : Nat, e = .returned (.float .f64 (un q0_ r)) ∧ Drawn0 w w' := by
 have H : ((math_NaN.f).bind fun t101 => (some t101)) = some r := h
 clear h
 replace H := Option.bind_eq_some_iff.mp H
 obtain ⟨t101, A10, H⟩ := H
 replace H : (some t101) = some r := H
 have A1 := Aside0.mk A10
 clear A10
 obtain rfl := Option.some.inj H
 go_enter Tryd.func49, Tryd.ntmps49
 go_wp2_with (first | ((with_reducible refine gate_callee (f := 70) rfl ?_); refine goesL_ (some 1) rfl rfl Tryd.func70 (by kernel_rfl) rfl #[] rfl (by (try simp only [List.map_toArray, List.map_cons, List.map_nil]); first | done | rfl | (simp only [List.length_drop, List.length_take]; rfl)) ?_; (with_reducible refine (math_NaN.calls  t101 _ A1.out).mono ?_); rintro e w' ⟨pr102, rfl, ⟨nd, rfl⟩⟩; refine ⟨_, rfl, ?_⟩))
 go_ret
 first | (exact ⟨pr102, by first | rfl | (simp; done) | (simp [*]; done), by repeat (first | exact Drawn0.refl _ | apply Drawn0.step)⟩) | (exact ⟨⟨pr102, by first | rfl | (simp; done) | (simp [*]; done)⟩, by repeat (first | exact Drawn0.refl _ | apply Drawn0.step)⟩)

/-! ### impl_mod: function 71 -/
def impl_mod.f (a0 : Int) (a1 : Int) : Option (Int) := if a1 = 0 then (none) else (some (Int.tmod (wrap64 ((Int.tmod a0 a1) + a1)) a1))
set_option maxHeartbeats 8000000 in
set_option maxRecDepth 100000 in
theorem impl_mod.calls (a0 : Int) (a1 : Int) (r : Int) (w : World) (h : impl_mod.f a0 a1 = some r) :
  Calls Tryd.prog 71 #[.int .i64 a0, .int .i64 a1] w fun e w' => e = .returned (.int .i64 r) ∧ Drawn0 w w' := by
 have H : (if a1 = 0 then (none) else (some (Int.tmod (wrap64 ((Int.tmod a0 a1) + a1)) a1))) = some r := h
 clear h
 by_cases c3 : a1 = 0
 ·rw [if_pos c3] at H
  exact absurd H (by simp)
 ·rw [if_neg c3] at H
  have c3b0 : (a1 == 0) = false := beq_eq_false_iff_ne.mpr c3
  have c3b1 : (a1 != 0) = true := bne_iff_ne.mpr c3
  obtain rfl := Option.some.inj H
  go_enter Tryd.func71, Tryd.ntmps71
  go_wp2
  go_ret
  exact ⟨by first | rfl | (simp; done) | (simp [*]; done), by repeat (first | exact Drawn0.refl _ | apply Drawn0.step)⟩

/-! ### impl_sine: function 72 -/
def impl_sine.f (a0 : Int) (l1 : List (Nat)) : Option (Nat) := if a0 ≤ 9 then (if 0 ≤ a0 then (if a0 < 10 then (some (rd_F l1 a0)) else (none)) else (none)) else (if a0 ≤ 18 then (if 0 ≤ (wrap64 (18 - a0)) then (if (wrap64 (18 - a0)) < 10 then (some (rd_F l1 (wrap64 (18 - a0)))) else (none)) else (none)) else (if a0 ≤ 27 then (if 0 ≤ (wrap64 (a0 - 18)) then (if (wrap64 (a0 - 18)) < 10 then (some (fsub 0 (rd_F l1 (wrap64 (a0 - 18))))) else (none)) else (none)) else (if 0 ≤ (wrap64 (36 - a0)) then (if (wrap64 (36 - a0)) < 10 then (some (fsub 0 (rd_F l1 (wrap64 (36 - a0))))) else (none)) else (none))))
set_option maxHeartbeats 8000000 in
set_option maxRecDepth 100000 in
theorem impl_sine.calls (a0 : Int) (l1 : List (Nat)) (r : Nat) (w : World) (hr1 : Kd.C Kd.flt w (some ⟨1, 0, none⟩) l1.length l1) (hc1 : l1.length ≤ l1.length) (hn1 : l1.length = 10) (h : impl_sine.f a0 l1 = some r) :
  Calls Tryd.prog 72 #[.int .i64 a0] w fun e w' => ∃ q0_ : Nat, e = .returned (.float .f64 (un q0_ r)) ∧ Drawn0 w w' := by
 have HR1 := Aside0.mk hr1
 have HC1 := Aside0.mk hc1
 clear hr1 hc1
 have HN1 := Aside0.mk hn1
 clear hn1
 have H : (if a0 ≤ 9 then (if 0 ≤ a0 then (if a0 < 10 then (some (rd_F l1 a0)) else (none)) else (none)) else (if a0 ≤ 18 then (if 0 ≤ (wrap64 (18 - a0)) then (if (wrap64 (18 - a0)) < 10 then (some (rd_F l1 (wrap64 (18 - a0)))) else (none)) else (none)) else (if a0 ≤ 27 then (if 0 ≤ (wrap64 (a0 - 18)) then (if (wrap64 (a0 - 18)) < 10 then (some (fsub 0 (rd_F l1 (wrap64 (a0 - 18))))) else (none)) else (none)) else (if 0 ≤ (wrap64 (36 - a0)) then (if (wrap64 (36 - a0)) < 10 then (some (fsub 0 (rd_F l1 (wrap64 (36 - a0))))) else (none)) else (none))))) = some r := h
 clear h
 by_cases c3 : a0 ≤ 9
 ·rw [if_pos c3] at H
  have c3b0 : decide (a0 ≤ 9) = true := decide_eq_true c3
  clear c3
  by_cases c4 : 0 ≤ a0
  ·rw [if_pos c4] at H
   have c4b0 : decide (0 ≤ a0) = true := decide_eq_true c4
   clear c4
   by_cases c5 : a0 < 10
   ·rw [if_pos c5] at H
    have c5b0 : decide (a0 < 10) = true := decide_eq_true c5
    clear c5
    obtain rfl := Option.some.inj H
    have p103 : 0 ≤ (a0 : Int) := of_decide_eq_true (by first | (with_reducible assumption) | assumption)
    have q103 : a0 < (l1.length : Int) := (by have h_ : (a0 : Int) < (10 : Int) := of_decide_eq_true (by first | (with_reducible assumption) | assumption); have e_ := HN1.out; omega)
    have ql103 : ((a0 : Int) < (10 : Int)) = True := eq_true (of_decide_eq_true (by first | (with_reducible assumption) | assumption))
    obtain ⟨ad103, pf103_0, e103, hx103_0⟩ := at_F HR1.out a0 p103 q103
    obtain rfl : (⟨1, 0, none⟩ : Addr) = ad103 := (by injection e103)
    (first | simp only [add_plain] at hx103_0 | simp only [add_at] at hx103_0 | simp only [Addr.add, Nat.zero_add] at hx103_0 | skip)
    replace p103 := eq_true p103
    replace q103 := eq_true q103
    go_enter Tryd.func72, Tryd.ntmps72
    go_wp2
    go_ret
    first | (exact ⟨pf103_0, by first | rfl | (simp; done) | (simp [*]; done), by repeat (first | exact Drawn0.refl _ | apply Drawn0.step)⟩) | (exact ⟨⟨pf103_0, by first | rfl | (simp; done) | (simp [*]; done)⟩, by repeat (first | exact Drawn0.refl _ | apply Drawn0.step)⟩)
   ·rw [if_neg c5] at H
    exact absurd H (by simp)
  ·rw [if_neg c4] at H
   exact absurd H (by simp)
 ·rw [if_neg c3] at H
  have c3b0 : decide (a0 ≤ 9) = false := decide_eq_false c3
  clear c3
  by_cases c6 : a0 ≤ 18
  ·rw [if_pos c6] at H
   have c6b0 : decide (a0 ≤ 18) = true := decide_eq_true c6
   clear c6
   obtain ⟨ji7, hji7⟩ : ∃ j_ : Int, (wrap64 (18 - a0)) = j_ := ⟨_, rfl⟩
   replace H : (if 0 ≤ (ji7) then (if (ji7) < 10 then (some (rd_F l1 (ji7))) else (none)) else (none)) = some r := by first | (rw [hji7] at H; exact H) | (simp only [hji7] at H ⊢; exact H)
   have hji7w : (IntKind.i64.wrap (18 - a0)) = ji7 := (i64_w _).trans hji7
   by_cases c8 : 0 ≤ (ji7)
   ·rw [if_pos c8] at H
    have c8b0 : decide (0 ≤ (ji7)) = true := decide_eq_true c8
    clear c8
    by_cases c9 : (ji7) < 10
    ·rw [if_pos c9] at H
     have c9b0 : decide ((ji7) < 10) = true := decide_eq_true c9
     clear c9
     obtain rfl := Option.some.inj H
     have p104 : 0 ≤ ((ji7) : Int) := of_decide_eq_true (by first | (with_reducible assumption) | assumption)
     have q104 : (ji7) < (l1.length : Int) := (by have h_ : ((ji7) : Int) < (10 : Int) := of_decide_eq_true (by first | (with_reducible assumption) | assumption); have e_ := HN1.out; omega)
     have ql104 : (((ji7) : Int) < (10 : Int)) = True := eq_true (of_decide_eq_true (by first | (with_reducible assumption) | assumption))
     obtain ⟨ad104, pf104_0, e104, hx104_0⟩ := at_F HR1.out (ji7) p104 q104
     obtain rfl : (⟨1, 0, none⟩ : Addr) = ad104 := (by injection e104)
     (first | simp only [add_plain] at hx104_0 | simp only [add_at] at hx104_0 | simp only [Addr.add, Nat.zero_add] at hx104_0 | skip)
     replace p104 := eq_true p104
     replace q104 := eq_true q104
     go_enter Tryd.func72, Tryd.ntmps72
     go_wp2
     go_ret
     first | (exact ⟨pf104_0, by first | rfl | (simp; done) | (simp only [← hji7] <;> (first | rfl | simp)) | (simp [*]; done), by repeat (first | exact Drawn0.refl _ | apply Drawn0.step)⟩) | (exact ⟨⟨pf104_0, by first | rfl | (simp; done) | (simp only [← hji7] <;> (first | rfl | simp)) | (simp [*]; done)⟩, by repeat (first | exact Drawn0.refl _ | apply Drawn0.step)⟩)
    ·rw [if_neg c9] at H
     exact absurd H (by simp)
   ·rw [if_neg c8] at H
    exact absurd H (by simp)
  ·rw [if_neg c6] at H
   have c6b0 : decide (a0 ≤ 18) = false := decide_eq_false c6
   clear c6
   by_cases c10 : a0 ≤ 27
   ·rw [if_pos c10] at H
    have c10b0 : decide (a0 ≤ 27) = true := decide_eq_true c10
    clear c10
    obtain ⟨ji11, hji11⟩ : ∃ j_ : Int, (wrap64 (a0 - 18)) = j_ := ⟨_, rfl⟩
    replace H : (if 0 ≤ (ji11) then (if (ji11) < 10 then (some (fsub 0 (rd_F l1 (ji11)))) else (none)) else (none)) = some r := by first | (rw [hji11] at H; exact H) | (simp only [hji11] at H ⊢; exact H)
    have hji11w : (IntKind.i64.wrap (a0 - 18)) = ji11 := (i64_w _).trans hji11
    by_cases c12 : 0 ≤ (ji11)
    ·rw [if_pos c12] at H
     have c12b0 : decide (0 ≤ (ji11)) = true := decide_eq_true c12
     clear c12
     by_cases c13 : (ji11) < 10
     ·rw [if_pos c13] at H
      have c13b0 : decide ((ji11) < 10) = true := decide_eq_true c13
      clear c13
      obtain rfl := Option.some.inj H
      have p105 : 0 ≤ ((ji11) : Int) := of_decide_eq_true (by first | (with_reducible assumption) | assumption)
      have q105 : (ji11) < (l1.length : Int) := (by have h_ : ((ji11) : Int) < (10 : Int) := of_decide_eq_true (by first | (with_reducible assumption) | assumption); have e_ := HN1.out; omega)
      have ql105 : (((ji11) : Int) < (10 : Int)) = True := eq_true (of_decide_eq_true (by first | (with_reducible assumption) | assumption))
      obtain ⟨ad105, pf105_0, e105, hx105_0⟩ := at_F HR1.out (ji11) p105 q105
      obtain rfl : (⟨1, 0, none⟩ : Addr) = ad105 := (by injection e105)
      (first | simp only [add_plain] at hx105_0 | simp only [add_at] at hx105_0 | simp only [Addr.add, Nat.zero_add] at hx105_0 | skip)
      replace p105 := eq_true p105
      replace q105 := eq_true q105
      go_enter Tryd.func72, Tryd.ntmps72
      go_wp2_with (first | ((with_reducible refine gate_dst (N := 23) rfl ?_); refine fop_event rfl (N := 23) rfl (op := .sub) rfl rfl 0 0 pf105_0 (rd_F l1 (ji11)) rfl rfl ?hA ?hB fsub rfl ?_; (case hA => first | rfl | exact (un_zero _).symm); (case hB => first | rfl | exact (un_zero _).symm); rintro pb106 _ ⟨nd, rfl⟩))
      go_ret
      first | (exact ⟨pb106, by first | rfl | (simp; done) | (simp only [← hji11] <;> (first | rfl | simp)) | (simp [*]; done), by repeat (first | exact Drawn0.refl _ | apply Drawn0.step)⟩) | (exact ⟨⟨pb106, by first | rfl | (simp; done) | (simp only [← hji11] <;> (first | rfl | simp)) | (simp [*]; done)⟩, by repeat (first | exact Drawn0.refl _ | apply Drawn0.step)⟩)
     ·rw [if_neg c13] at H
      exact absurd H (by simp)
    ·rw [if_neg c12] at H
     exact absurd H (by simp)
   ·rw [if_neg c10] at H
    have c10b0 : decide (a0 ≤ 27) = false := decide_eq_false c10
    clear c10
    obtain ⟨ji14, hji14⟩ : ∃ j_ : Int, (wrap64 (36 - a0)) = j_ := ⟨_, rfl⟩
    replace H : (if 0 ≤ (ji14) then (if (ji14) < 10 then (some (fsub 0 (rd_F l1 (ji14)))) else (none)) else (none)) = some r := by first | (rw [hji14] at H; exact H) | (simp only [hji14] at H ⊢; exact H)
    have hji14w : (IntKind.i64.wrap (36 - a0)) = ji14 := (i64_w _).trans hji14
    by_cases c15 : 0 ≤ (ji14)
    ·rw [if_pos c15] at H
     have c15b0 : decide (0 ≤ (ji14)) = true := decide_eq_true c15
     clear c15
     by_cases c16 : (ji14) < 10
     ·rw [if_pos c16] at H
      have c16b0 : decide ((ji14) < 10) = true := decide_eq_true c16
      clear c16
      obtain rfl := Option.some.inj H
      have p107 : 0 ≤ ((ji14) : Int) := of_decide_eq_true (by first | (with_reducible assumption) | assumption)
      have q107 : (ji14) < (l1.length : Int) := (by have h_ : ((ji14) : Int) < (10 : Int) := of_decide_eq_true (by first | (with_reducible assumption) | assumption); have e_ := HN1.out; omega)
      have ql107 : (((ji14) : Int) < (10 : Int)) = True := eq_true (of_decide_eq_true (by first | (with_reducible assumption) | assumption))
      obtain ⟨ad107, pf107_0, e107, hx107_0⟩ := at_F HR1.out (ji14) p107 q107
      obtain rfl : (⟨1, 0, none⟩ : Addr) = ad107 := (by injection e107)
      (first | simp only [add_plain] at hx107_0 | simp only [add_at] at hx107_0 | simp only [Addr.add, Nat.zero_add] at hx107_0 | skip)
      replace p107 := eq_true p107
      replace q107 := eq_true q107
      go_enter Tryd.func72, Tryd.ntmps72
      go_wp2_with (first | ((with_reducible refine gate_dst (N := 28) rfl ?_); refine fop_event rfl (N := 28) rfl (op := .sub) rfl rfl 0 0 pf107_0 (rd_F l1 (ji14)) rfl rfl ?hA ?hB fsub rfl ?_; (case hA => first | rfl | exact (un_zero _).symm); (case hB => first | rfl | exact (un_zero _).symm); rintro pb108 _ ⟨nd, rfl⟩))
      go_ret
      first | (exact ⟨pb108, by first | rfl | (simp; done) | (simp only [← hji14] <;> (first | rfl | simp)) | (simp [*]; done), by repeat (first | exact Drawn0.refl _ | apply Drawn0.step)⟩) | (exact ⟨⟨pb108, by first | rfl | (simp; done) | (simp only [← hji14] <;> (first | rfl | simp)) | (simp [*]; done)⟩, by repeat (first | exact Drawn0.refl _ | apply Drawn0.step)⟩)
     ·rw [if_neg c16] at H
      exact absurd H (by simp)
    ·rw [if_neg c15] at H
     exact absurd H (by simp)

/-! ### impl_Turn: function 51 -/
def impl_Turn.f (a0 : Int) (l1 : List (Nat)) : Option (Nat × Nat) := (impl_mod.f a0 36).bind fun t110 => ((impl_sine.f (Int.tmod (wrap64 (t110 + 9)) 36) l1).bind fun t111 => ((impl_sine.f t110 l1).bind fun t113 => (some (t111, t113))))
set_option maxHeartbeats 8000000 in
set_option maxRecDepth 100000 in
theorem impl_Turn.calls (a0 : Int) (l1 : List (Nat)) (r1 : Nat) (r2 : Nat) (w : World) (hr1 : Kd.C Kd.flt w (some ⟨1, 0, none⟩) l1.length l1) (hc1 : l1.length ≤ l1.length) (hn1 : l1.length = 10) (h : impl_Turn.f a0 l1 = some (r1, r2)) :
  Calls Tryd.prog 51 #[.int .i64 a0] w fun e w' => ∃ q0_ q1_ : Nat, e = .returned (.agg #[.float .f64 (un q0_ r1), .float .f64 (un q1_ r2)]) ∧ Below w.heap.size w w' := by
 have hu42 := Tryd.underlying42
 have HR1 := Aside0.mk hr1
 have HC1 := Aside0.mk hc1
 clear hr1 hc1
 have HN1 := Aside0.mk hn1
 clear hn1
 have HB := Aside0.mk (Below.refl w.heap.size w)
 have H : ((impl_mod.f a0 36).bind fun t110 => ((impl_sine.f (Int.tmod (wrap64 (t110 + 9)) 36) l1).bind fun t111 => ((impl_sine.f t110 l1).bind fun t113 => (some (t111, t113))))) = some (r1, r2) := h
 clear h
 replace H := Option.bind_eq_some_iff.mp H
 obtain ⟨t110, A30, H⟩ := H
 replace H : ((impl_sine.f (Int.tmod (wrap64 (t110 + 9)) 36) l1).bind fun t111 => ((impl_sine.f t110 l1).bind fun t113 => (some (t111, t113)))) = some (r1, r2) := H
 have A3 := Aside0.mk A30
 clear A30
 replace H := Option.bind_eq_some_iff.mp H
 obtain ⟨t111, A40, H⟩ := H
 replace H : ((impl_sine.f t110 l1).bind fun t113 => (some (t111, t113))) = some (r1, r2) := H
 have A4 := Aside0.mk A40
 clear A40
 replace H := Option.bind_eq_some_iff.mp H
 obtain ⟨t113, A50, H⟩ := H
 replace H : (some (t111, t113)) = some (r1, r2) := H
 have A5 := Aside0.mk A50
 clear A50
 simp only [Option.some.injEq, Prod.mk.injEq] at H
 obtain ⟨rfl, rfl⟩ := H
 go_enter Tryd.func51, Tryd.ntmps51
 go_wp2_with (first | ((with_reducible refine gate_dst (N := 2) rfl ?_); refine box_event ?hg (N := 2) ?hd (cs := #[.float .f64 0, .float .f64 0]) (t := 42) ?hr ?_; (case hd => rfl); (case hg => rfl); (case hr => first | (go_simp; done) | (go_simp; rfl)); intro gb109 hg w6 hbox hb; have n0_ := Aside0.mk (below_step (by repeat (first | (with_reducible first | exact HB.out | apply below_alloc | apply pw_below_drewN | apply below_drew1) | exact HB.out)) hb); have n1_ := Aside0.mk (hbox); have n2_ := Aside0.mk ((by rw [hg]; exact (below_size (by repeat (first | (with_reducible first | exact HB.out | apply below_alloc | apply pw_below_drewN | apply below_drew1) | exact HB.out))) : w.heap.size ≤ gb109)); have n3_ := Aside0.mk ((by rw [hg]; exact (below_size (by repeat (first | (with_reducible first | exact HB.out | apply below_alloc | apply pw_below_drewN | apply below_drew1) | exact HB.out))) : w.heap.size ≤ gb109)); clear HB; have HB := n0_; have BK109 := n1_; have GW109 := n2_; have GE109 := n3_; clear n0_ n1_ n2_ n3_; clear hb hbox hg) | ((with_reducible refine gate_callee (f := 71) rfl ?_); refine goesL_ (some 4) rfl rfl Tryd.func71 (by kernel_rfl) rfl #[.int .i64 a0, .int .i64 36] rfl (by (try simp only [List.map_toArray, List.map_cons, List.map_nil]); first | done | rfl | (simp only [List.length_drop, List.length_take]; rfl)) ?_; (with_reducible refine (impl_mod.calls a0 36 t110 _ A3.out).mono ?_); rintro e w' ⟨rfl, ⟨nd, rfl⟩⟩; refine ⟨_, rfl, ?_⟩; skip) | ((with_reducible refine gate_callee (f := 72) rfl ?_); refine goesL_ (some 8) rfl rfl Tryd.func72 (by kernel_rfl) rfl #[.int .i64 (Int.tmod (wrap64 (t110 + 9)) 36)] rfl (by (try simp only [List.map_toArray, List.map_cons, List.map_nil]); first | done | rfl | (simp only [List.length_drop, List.length_take]; rfl)) ?_; (with_reducible refine (impl_sine.calls (Int.tmod (wrap64 (t110 + 9)) 36) l1 t111 _ ?side1 ?side2 ?side3 A4.out).mono ?_); (case side1 => repeat (first | exact (Kd.C_below HR1.out HB.out) | (with_reducible refine Kd.C_alloc ?_ _) | (with_reducible refine Kd.C_drewN ?_ _) | (with_reducible refine Kd.C_drew ?_))); (case side2 => exact HC1.out); (case side3 => exact HN1.out); rintro e w' ⟨pr112, rfl, ⟨nd, rfl⟩⟩; refine ⟨_, rfl, ?_⟩; skip) | ((with_reducible refine gate_callee (f := 72) rfl ?_); refine goesL_ (some 10) rfl rfl Tryd.func72 (by kernel_rfl) rfl #[.int .i64 t110] rfl (by (try simp only [List.map_toArray, List.map_cons, List.map_nil]); first | done | rfl | (simp only [List.length_drop, List.length_take]; rfl)) ?_; (with_reducible refine (impl_sine.calls t110 l1 t113 _ ?side1 ?side2 ?side3 A5.out).mono ?_); (case side1 => repeat (first | exact (Kd.C_below HR1.out HB.out) | (with_reducible refine Kd.C_alloc ?_ _) | (with_reducible refine Kd.C_drewN ?_ _) | (with_reducible refine Kd.C_drew ?_))); (case side2 => exact HC1.out); (case side3 => exact HN1.out); rintro e w' ⟨pr114, rfl, ⟨nd, rfl⟩⟩; refine ⟨_, rfl, ?_⟩; skip; have hcz7_0 : w6.cell? ⟨gb109, 0, none⟩ = some (.float .f64 0) := (blk_cell BK109.out 0).trans rfl; have hcz7_1 : w6.cell? ⟨gb109, 1, none⟩ = some (.float .f64 0) := (blk_cell BK109.out 1).trans rfl; have hfz7_0 := blk_frozen BK109.out 0; have hfz7_1 := blk_frozen BK109.out 1))
 refine bodyPost_ret (results_cell_row rfl _ _ gb109 42 #[.float .f64 (un pr112 t111), .float .f64 (un pr114 t113)] (0, 0) _ rfl (by (with_reducible repeat (first | refine blk_drewN ?_ _ | refine blk_drew ?_ | refine blk_alloc ?_ _)); refine blk_put (cs := #[.float .f64 (un pr112 t111), .float .f64 0]) ?_ 1 _ rfl; (with_reducible repeat (first | refine blk_drewN ?_ _ | refine blk_drew ?_ | refine blk_alloc ?_ _)); refine blk_put (cs := #[.float .f64 0, .float .f64 0]) ?_ 0 _ rfl; (with_reducible repeat (first | refine blk_drewN ?_ _ | refine blk_drew ?_ | refine blk_alloc ?_ _)); exact BK109.out) Tryd.underlying42 rfl (by kernel_rfl)) rfl ?_
 first | (exact ⟨pr112, pr114, by first | rfl | (simp [errW_none, errW_some] <;> rfl) | (simp [*, errW_none, errW_some] <;> rfl), by repeat (first | (with_reducible first | exact HB.out | apply below_alloc | apply pw_below_drewN | apply below_drew1 | refine below_set ?_ GE109.out) | exact HB.out)⟩) | (exact ⟨⟨pr112, pr114, by first | rfl | (simp [errW_none, errW_some] <;> rfl) | (simp [*, errW_none, errW_some] <;> rfl)⟩, by repeat (first | (with_reducible first | exact HB.out | apply below_alloc | apply pw_below_drewN | apply below_drew1 | refine below_set ?_ GE109.out) | exact HB.out)⟩)

/-! ### impl_in: function 69 -/
def impl_in.f (a0 : Int) (a1 : Int) (a2 : Int) : Option (Bool) := if a0 ≥ a1 then (some (decide (a0 ≤ a2))) else (some false)
set_option maxHeartbeats 8000000 in
set_option maxRecDepth 100000 in
theorem impl_in.calls (a0 : Int) (a1 : Int) (a2 : Int) (r : Bool) (w : World) (h : impl_in.f a0 a1 a2 = some r) :
  Calls Tryd.prog 69 #[.int .i64 a0, .int .i64 a1, .int .i64 a2] w fun e w' => e = .returned (.bool r) ∧ Drawn0 w w' := by
 have H : (if a0 ≥ a1 then (some (decide (a0 ≤ a2))) else (some false)) = some r := h
 clear h
 by_cases c4 : a0 ≥ a1
 ·rw [if_pos c4] at H
  have c4b0 : decide (a1 ≤ a0) = true := decide_eq_true c4
  clear c4
  obtain rfl := Option.some.inj H
  go_enter Tryd.func69, Tryd.ntmps69
  go_wp2
  go_ret
  exact ⟨by first | rfl | (simp; done) | (simp [*]; done), by repeat (first | exact Drawn0.refl _ | apply Drawn0.step)⟩
 ·rw [if_neg c4] at H
  have c4b0 : decide (a1 ≤ a0) = false := decide_eq_false c4
  clear c4
  obtain rfl := Option.some.inj H
  go_enter Tryd.func69, Tryd.ntmps69
  go_wp2
  go_ret
  exact ⟨by first | rfl | (simp; done) | (simp [*]; done), by repeat (first | exact Drawn0.refl _ | apply Drawn0.step)⟩

/-! ### impl_missing: function 79 -/
def impl_missing.f (a0 : Nat) : Option (Bool) := some (fne a0 a0)
set_option maxHeartbeats 8000000 in
set_option maxRecDepth 100000 in
theorem impl_missing.calls (pa0 : Nat) (a0 : Nat) (r : Bool) (w : World) (h : impl_missing.f a0 = some r) :
  Calls Tryd.prog 79 #[.float .f64 (un pa0 a0)] w fun e w' => e = .returned (.bool r) ∧ Drawn0 w w' := by
 have H : (some (fne a0 a0)) = some r := h
 clear h
 obtain rfl := Option.some.inj H
 go_enter Tryd.func79, Tryd.ntmps79
 go_wp2
 go_ret
 exact ⟨by first | rfl | (simp; done) | (simp [*]; done), by repeat (first | exact Drawn0.refl _ | apply Drawn0.step)⟩

-- NOT PRINTED: function 84 (math_Float64bits)

/-! ### math_Abs: function 83 -/
def math_Abs.f (a0 : Nat) : Option (Nat) := some (fabs a0)
set_option maxHeartbeats 8000000 in
theorem math_Abs.calls (pa0 : Nat) (a0 : Nat) (r : Nat) (w : World) (h : math_Abs.f a0 = some r) : Calls Tryd.prog 83 #[.float .f64 (un pa0 a0)] w fun e w' => ∃ q0_ : Nat, e = .returned (.float .f64 (un q0_ r)) ∧ Drawn0 w w' := by
 obtain rfl := Option.some.inj h
 generalize hx : un pa0 a0 = x
 go_enter Tryd.func83, Tryd.ntmps83
 go_wp2_with fail
 rw [run_extc Tryd.func84 (by kernel_rfl) rfl (by kernel_rfl) (e := Extern.MathFloatBits.float64bits) (by kernel_rfl) _ (v := .int .u64 (x : Nat)) rfl]
 go_wp2_with fail
 rw [run_extc Tryd.func78 (by kernel_rfl) rfl (by kernel_rfl) (e := Extern.MathFloatBits.float64frombits) (by kernel_rfl) #[.int .u64 (Go.bits .andNot .u64 (x : Nat) 9223372036854775808)] (v := .float .f64 (x % 9223372036854775808)) (congrArg (fun z => (pure (Value.float .f64 z) : Sem Value)) (abs_bits x))]
 go_wp2
 go_ret
 exact ⟨x % 9223372036854775808, by rw [← hx, ← fabs_un]; rfl, by repeat (first | exact Drawn0.refl _ | apply Drawn0.step)⟩

/-! ### math_IsInf: function 80 -/
def math_IsInf.f (a0 : Nat) (a1 : Int) : Option (Bool) := if a1 = 0 then ((math_Abs.f a0).bind fun t115 => (some (fgt t115 9218868437227405311))) else (if a1 < 0 then (some (fgt (fneg a0) 9218868437227405311)) else (some (fgt a0 9218868437227405311)))
set_option maxHeartbeats 8000000 in
set_option maxRecDepth 100000 in
theorem math_IsInf.calls (pa0 : Nat) (a0 : Nat) (a1 : Int) (r : Bool) (w : World) (h : math_IsInf.f a0 a1 = some r) :
  Calls Tryd.prog 80 #[.float .f64 (un pa0 a0), .int .i64 a1] w fun e w' => e = .returned (.bool r) ∧ Drawn0 w w' := by
 have H : (if a1 = 0 then ((math_Abs.f a0).bind fun t115 => (some (fgt t115 9218868437227405311))) else (if a1 < 0 then (some (fgt (fneg a0) 9218868437227405311)) else (some (fgt a0 9218868437227405311)))) = some r := h
 clear h
 by_cases c3 : a1 = 0
 ·rw [if_pos c3] at H
  have c3b0 : (a1 == 0) = true := beq_iff_eq.mpr c3
  have c3b1 : (a1 != 0) = false := bne_eq_false_iff_eq.mpr c3
  clear c3
  replace H := Option.bind_eq_some_iff.mp H
  obtain ⟨t115, A40, H⟩ := H
  replace H : (some (fgt t115 9218868437227405311)) = some r := H
  have A4 := Aside0.mk A40
  clear A40
  obtain rfl := Option.some.inj H
  go_enter Tryd.func80, Tryd.ntmps80
  go_wp2_with (first | ((with_reducible refine gate_callee (f := 83) rfl ?_); refine goesL_ (some 8) rfl rfl Tryd.func83 (by kernel_rfl) rfl #[.float .f64 (un pa0 a0)] rfl (by (try simp only [List.map_toArray, List.map_cons, List.map_nil]); first | done | rfl | (simp only [List.length_drop, List.length_take]; rfl)) ?_; (with_reducible refine (math_Abs.calls pa0 a0 t115 _ A4.out).mono ?_); rintro e w' ⟨pr116, rfl, ⟨nd, rfl⟩⟩; refine ⟨_, rfl, ?_⟩))
  go_ret
  exact ⟨by first | rfl | (simp; done) | (simp [*]; done), by repeat (first | exact Drawn0.refl _ | apply Drawn0.step)⟩
 ·rw [if_neg c3] at H
  have c3b0 : (a1 == 0) = false := beq_eq_false_iff_ne.mpr c3
  have c3b1 : (a1 != 0) = true := bne_iff_ne.mpr c3
  by_cases c5 : a1 < 0
  ·rw [if_pos c5] at H
   have c5b0 : decide (a1 < 0) = true := decide_eq_true c5
   clear c5
   obtain rfl := Option.some.inj H
   go_enter Tryd.func80, Tryd.ntmps80
   go_wp2_with (first | ((with_reducible refine gate_dst (N := 12) rfl ?_); refine neg_event rfl (N := 12) rfl rfl pa0 a0 rfl ?hA ?_; (case hA => first | rfl | exact (un_zero _).symm); rintro pb117 _ ⟨nd, rfl⟩))
   go_ret
   exact ⟨by first | rfl | (simp; done) | (simp [*]; done), by repeat (first | exact Drawn0.refl _ | apply Drawn0.step)⟩
  ·rw [if_neg c5] at H
   have c5b0 : decide (a1 < 0) = false := decide_eq_false c5
   clear c5
   obtain rfl := Option.some.inj H
   go_enter Tryd.func80, Tryd.ntmps80
   go_wp2
   go_ret
   exact ⟨by first | rfl | (simp; done) | (simp [*]; done), by repeat (first | exact Drawn0.refl _ | apply Drawn0.step)⟩

/-! ### impl_Known: function 73 -/
def impl_Known.f (a0 : Nat) : Option (Bool) := (impl_missing.f a0).bind fun t118 => (if t118 = true then (some false) else ((math_IsInf.f a0 0).bind fun t119 => (some (!t119))))
set_option maxHeartbeats 8000000 in
set_option maxRecDepth 100000 in
theorem impl_Known.calls (pa0 : Nat) (a0 : Nat) (r : Bool) (w : World) (h : impl_Known.f a0 = some r) :
  Calls Tryd.prog 73 #[.float .f64 (un pa0 a0)] w fun e w' => e = .returned (.bool r) ∧ Drawn0 w w' := by
 have H : ((impl_missing.f a0).bind fun t118 => (if t118 = true then (some false) else ((math_IsInf.f a0 0).bind fun t119 => (some (!t119))))) = some r := h
 clear h
 replace H := Option.bind_eq_some_iff.mp H
 obtain ⟨t118, A20, H⟩ := H
 replace H : (if t118 = true then (some false) else ((math_IsInf.f a0 0).bind fun t119 => (some (!t119)))) = some r := H
 have A2 := Aside0.mk A20
 clear A20
 by_cases c3 : t118 = true
 ·subst c3
  have H1 : (some false) = some r := by rw [if_pos rfl] at H; exact H
  clear H
  have H := H1
  clear H1
  obtain rfl := Option.some.inj H
  go_enter Tryd.func73, Tryd.ntmps73
  go_wp2_with (first | ((with_reducible refine gate_callee (f := 79) rfl ?_); refine goesL_ (some 4) rfl rfl Tryd.func79 (by kernel_rfl) rfl #[.float .f64 (un pa0 a0)] rfl (by (try simp only [List.map_toArray, List.map_cons, List.map_nil]); first | done | rfl | (simp only [List.length_drop, List.length_take]; rfl)) ?_; (with_reducible refine (impl_missing.calls pa0 a0 true _ A2.out).mono ?_); rintro e w' ⟨rfl, ⟨nd, rfl⟩⟩; refine ⟨_, rfl, ?_⟩))
  go_ret
  exact ⟨by first | rfl | (simp; done) | (simp [*]; done), by repeat (first | exact Drawn0.refl _ | apply Drawn0.step)⟩
 ·replace c3 := Bool.eq_false_iff.mpr c3
  subst c3
  have H1 : ((math_IsInf.f a0 0).bind fun t119 => (some (!t119))) = some r := by rw [if_neg (show ¬ (false = true) by decide)] at H; exact H
  clear H
  have H := H1
  clear H1
  replace H := Option.bind_eq_some_iff.mp H
  obtain ⟨t119, A40, H⟩ := H
  replace H : (some (!t119)) = some r := H
  have A4 := Aside0.mk A40
  clear A40
  obtain rfl := Option.some.inj H
  go_enter Tryd.func73, Tryd.ntmps73
  go_wp2_with (first | ((with_reducible refine gate_callee (f := 79) rfl ?_); refine goesL_ (some 4) rfl rfl Tryd.func79 (by kernel_rfl) rfl #[.float .f64 (un pa0 a0)] rfl (by (try simp only [List.map_toArray, List.map_cons, List.map_nil]); first | done | rfl | (simp only [List.length_drop, List.length_take]; rfl)) ?_; (with_reducible refine (impl_missing.calls pa0 a0 false _ A2.out).mono ?_); rintro e w' ⟨rfl, ⟨nd, rfl⟩⟩; refine ⟨_, rfl, ?_⟩) | (go_at_call 80; (with_reducible refine (math_IsInf.calls pa0 a0 0 t119 _ A4.out).mono ?_); rintro e w' ⟨rfl, ⟨nd, rfl⟩⟩))
  go_ret
  exact ⟨by first | rfl | (simp; done) | (simp [*]; done), by repeat (first | exact Drawn0.refl _ | apply Drawn0.step)⟩

end Go.Proofs.YtpileeenoocjpaaDoor.Q
