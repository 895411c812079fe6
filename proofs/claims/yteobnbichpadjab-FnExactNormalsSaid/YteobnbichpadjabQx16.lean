/- Plain Lean functions with the same answers as the Go functions of this seat, and a proof for each that the Go code comes to just these answers; no condition. Written by a program of this session (the kit's printer, turned). -/
import Derived.Test.YteobnbichpadjabQx0
import Derived.Test.YteobnbichpadjabQx15
namespace Go.Proofs.Yteobnbichpadjab.Q
open Go.RowKit Go.Proofs.YteobnbichpadjabW.PrintWords Go.Proofs.YteobnbichpadjabW.PrintLast Go.Proofs.YteobnbichpadjabW.PrintMore Go.Proofs.YteobnbichpadjabW.PrintFlt
attribute [local go_sem] cmp_lss cmp_leq cmp_gtr cmp_geq cmp_eql cmp_neq flt_l flt_r fgt_l fgt_r feq_l feq_r fne_l fne_r ord_lt ord_gt ord_eq ord_ne conv_int foi_fold run_store_flt
attribute [local go_sem] max2_int min2_int max_two min_two max_three min_three max_four min_four   -- for this text's walks alone
set_option linter.unusedVariables false
set_option linter.unusedSimpArgs false

/-! ### impl_nearestBy: function 68 -/
def impl_nearestBy.f (a0 : Int) (a1 : Int) : Option (Int) := (impl_floorDiv.f a0 a1).bind fun t149 => (if (wrap64 (2 * (wrap64 (a0 - (wrap64 (t149 * a1)))))) > a1 then (some (wrap64 (t149 + 1))) else (if (wrap64 (2 * (wrap64 (a0 - (wrap64 (t149 * a1)))))) = a1 then (if (Int.tmod t149 2) = 0 then (some t149) else (some (wrap64 (t149 + 1)))) else (some t149)))
set_option maxHeartbeats 8000000 in
set_option maxRecDepth 100000 in
theorem impl_nearestBy.calls (a0 : Int) (a1 : Int) (r : Int) (w : World) (h : impl_nearestBy.f a0 a1 = some r) :
  Calls Try.prog 68 #[.int .i64 a0, .int .i64 a1] w fun e w' => e = .returned (.int .i64 r) ∧ Drawn0 w w' := by
 have H : ((impl_floorDiv.f a0 a1).bind fun t149 => (if (wrap64 (2 * (wrap64 (a0 - (wrap64 (t149 * a1)))))) > a1 then (some (wrap64 (t149 + 1))) else (if (wrap64 (2 * (wrap64 (a0 - (wrap64 (t149 * a1)))))) = a1 then (if (Int.tmod t149 2) = 0 then (some t149) else (some (wrap64 (t149 + 1)))) else (some t149)))) = some r := h
 clear h
 replace H := Option.bind_eq_some_iff.mp H
 obtain ⟨t149, A30, H⟩ := H
 replace H : (if (wrap64 (2 * (wrap64 (a0 - (wrap64 (t149 * a1)))))) > a1 then (some (wrap64 (t149 + 1))) else (if (wrap64 (2 * (wrap64 (a0 - (wrap64 (t149 * a1)))))) = a1 then (if (Int.tmod t149 2) = 0 then (some t149) else (some (wrap64 (t149 + 1)))) else (some t149))) = some r := H
 have A3 := Aside0.mk A30
 clear A30
 by_cases c4 : (wrap64 (2 * (wrap64 (a0 - (wrap64 (t149 * a1)))))) > a1
 ·rw [if_pos c4] at H
  have c4b0 : decide (a1 < (wrap64 (2 * (wrap64 (a0 - (wrap64 (t149 * a1))))))) = true := decide_eq_true c4
  clear c4
  obtain rfl := Option.some.inj H
  go_enter Try.func68, Try.ntmps68
  go_wp2_with (first | ((with_reducible refine gate_callee (f := 78) rfl ?_); refine goesL_ (some 9) rfl rfl Try.func78 (by kernel_rfl) rfl #[.int .i64 a0, .int .i64 a1] rfl (by (try simp only [List.map_toArray, List.map_cons, List.map_nil]); first | done | rfl | (simp only [List.length_drop, List.length_take]; rfl)) ?_; (with_reducible refine (impl_floorDiv.calls a0 a1 t149 _ A3.out).mono ?_); rintro e w' ⟨rfl, ⟨nd, rfl⟩⟩; refine ⟨_, rfl, ?_⟩))
  go_ret
  exact ⟨by first | rfl | (simp; done) | (simp [*]; done), by repeat (first | exact Drawn0.refl _ | apply Drawn0.step)⟩
 ·rw [if_neg c4] at H
  have c4b0 : decide (a1 < (wrap64 (2 * (wrap64 (a0 - (wrap64 (t149 * a1))))))) = false := decide_eq_false c4
  clear c4
  by_cases c5 : (wrap64 (2 * (wrap64 (a0 - (wrap64 (t149 * a1)))))) = a1
  ·rw [if_pos c5] at H
   have c5b0 : ((wrap64 (2 * (wrap64 (a0 - (wrap64 (t149 * a1)))))) == a1) = true := beq_iff_eq.mpr c5
   have c5b1 : ((wrap64 (2 * (wrap64 (a0 - (wrap64 (t149 * a1)))))) != a1) = false := bne_eq_false_iff_eq.mpr c5
   clear c5
   by_cases c6 : (Int.tmod t149 2) = 0
   ·rw [if_pos c6] at H
    have c6b0 : ((Int.tmod t149 2) == 0) = true := beq_iff_eq.mpr c6
    have c6b1 : ((Int.tmod t149 2) != 0) = false := bne_eq_false_iff_eq.mpr c6
    clear c6
    obtain rfl := Option.some.inj H
    go_enter Try.func68, Try.ntmps68
    go_wp2_with (first | ((with_reducible refine gate_callee (f := 78) rfl ?_); refine goesL_ (some 9) rfl rfl Try.func78 (by kernel_rfl) rfl #[.int .i64 a0, .int .i64 a1] rfl (by (try simp only [List.map_toArray, List.map_cons, List.map_nil]); first | done | rfl | (simp only [List.length_drop, List.length_take]; rfl)) ?_; (with_reducible refine (impl_floorDiv.calls a0 a1 t149 _ A3.out).mono ?_); rintro e w' ⟨rfl, ⟨nd, rfl⟩⟩; refine ⟨_, rfl, ?_⟩))
    go_ret
    exact ⟨by first | rfl | (simp; done) | (simp [*]; done), by repeat (first | exact Drawn0.refl _ | apply Drawn0.step)⟩
   ·rw [if_neg c6] at H
    have c6b0 : ((Int.tmod t149 2) == 0) = false := beq_eq_false_iff_ne.mpr c6
    have c6b1 : ((Int.tmod t149 2) != 0) = true := bne_iff_ne.mpr c6
    obtain rfl := Option.some.inj H
    go_enter Try.func68, Try.ntmps68
    go_wp2_with (first | ((with_reducible refine gate_callee (f := 78) rfl ?_); refine goesL_ (some 9) rfl rfl Try.func78 (by kernel_rfl) rfl #[.int .i64 a0, .int .i64 a1] rfl (by (try simp only [List.map_toArray, List.map_cons, List.map_nil]); first | done | rfl | (simp only [List.length_drop, List.length_take]; rfl)) ?_; (with_reducible refine (impl_floorDiv.calls a0 a1 t149 _ A3.out).mono ?_); rintro e w' ⟨rfl, ⟨nd, rfl⟩⟩; refine ⟨_, rfl, ?_⟩))
    go_ret
    exact ⟨by first | rfl | (simp; done) | (simp [*]; done), by repeat (first | exact Drawn0.refl _ | apply Drawn0.step)⟩
  ·rw [if_neg c5] at H
   have c5b0 : ((wrap64 (2 * (wrap64 (a0 - (wrap64 (t149 * a1)))))) == a1) = false := beq_eq_false_iff_ne.mpr c5
   have c5b1 : ((wrap64 (2 * (wrap64 (a0 - (wrap64 (t149 * a1)))))) != a1) = true := bne_iff_ne.mpr c5
   obtain rfl := Option.some.inj H
   go_enter Try.func68, Try.ntmps68
   go_wp2_with (first | ((with_reducible refine gate_callee (f := 78) rfl ?_); refine goesL_ (some 9) rfl rfl Try.func78 (by kernel_rfl) rfl #[.int .i64 a0, .int .i64 a1] rfl (by (try simp only [List.map_toArray, List.map_cons, List.map_nil]); first | done | rfl | (simp only [List.length_drop, List.length_take]; rfl)) ?_; (with_reducible refine (impl_floorDiv.calls a0 a1 t149 _ A3.out).mono ?_); rintro e w' ⟨rfl, ⟨nd, rfl⟩⟩; refine ⟨_, rfl, ?_⟩))
   go_ret
   exact ⟨by first | rfl | (simp; done) | (simp [*]; done), by repeat (first | exact Drawn0.refl _ | apply Drawn0.step)⟩

end Go.Proofs.Yteobnbichpadjab.Q
