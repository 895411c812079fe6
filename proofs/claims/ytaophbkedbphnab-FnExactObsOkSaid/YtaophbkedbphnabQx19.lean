/- Plain Lean functions with the same answers as the Go functions of this seat, and a proof for each that the Go code comes to just these answers; no condition. Written by a program of this session (the kit's printer, turned). -/
import Derived.Test.YtaophbkedbphnabQx0
import Derived.Test.YtaophbkedbphnabQx13
import Derived.Test.YtaophbkedbphnabQx18
namespace Go.Proofs.Ytaophbkedbphnab.Q
open Go.RowKit Go.Proofs.YtaophbkedbphnabW.PrintWords Go.Proofs.YtaophbkedbphnabW.PrintLast Go.Proofs.YtaophbkedbphnabW.PrintMore Go.Proofs.YtaophbkedbphnabW.PrintFlt
attribute [local go_sem] cmp_lss cmp_leq cmp_gtr cmp_geq cmp_eql cmp_neq flt_l flt_r fgt_l fgt_r feq_l feq_r fne_l fne_r ord_lt ord_gt ord_eq ord_ne conv_int conv_flt foi_fold run_store_flt
attribute [local go_sem] max2_int min2_int max_two min_two max_three min_three max_four min_four   -- for this text's walks alone
set_option linter.unusedVariables false
set_option linter.unusedSimpArgs false

/-! ### impl_Known: function 57 -/
def impl_Known.f (a0 : Nat) : Option (Bool) := (impl_missing.f a0).bind fun t142 => (if t142 = true then (some false) else ((math_IsInf.f a0 0).bind fun t143 => (some (!t143))))
set_option maxHeartbeats 8000000 in
set_option maxRecDepth 100000 in
theorem impl_Known.calls (pa0 : Nat) (a0 : Nat) (r : Bool) (w : World) (h : impl_Known.f a0 = some r) :
  Calls Try.prog 57 #[.float .f64 (un pa0 a0)] w fun e w' => e = .returned (.bool r) ∧ Drawn0 w w' := by
 have H : ((impl_missing.f a0).bind fun t142 => (if t142 = true then (some false) else ((math_IsInf.f a0 0).bind fun t143 => (some (!t143))))) = some r := h
 clear h
 replace H := Option.bind_eq_some_iff.mp H
 obtain ⟨t142, A20, H⟩ := H
 replace H : (if t142 = true then (some false) else ((math_IsInf.f a0 0).bind fun t143 => (some (!t143)))) = some r := H
 have A2 := Aside0.mk A20
 clear A20
 by_cases c3 : t142 = true
 ·subst c3
  have H1 : (some false) = some r := by rw [if_pos rfl] at H; exact H
  clear H
  have H := H1
  clear H1
  obtain rfl := Option.some.inj H
  go_enter Try.func57, Try.ntmps57
  go_wp2_with (first | ((with_reducible refine gate_callee (f := 44) rfl ?_); refine goesL_ (some 4) rfl rfl Try.func44 (by kernel_rfl) rfl #[.float .f64 (un pa0 a0)] rfl (by (try simp only [List.map_toArray, List.map_cons, List.map_nil]); first | done | rfl | (simp only [List.length_drop, List.length_take]; rfl)) ?_; (with_reducible refine (impl_missing.calls pa0 a0 true _ A2.out).mono ?_); rintro e w' ⟨rfl, ⟨nd, rfl⟩⟩; refine ⟨_, rfl, ?_⟩))
  go_ret
  exact ⟨by first | rfl | (simp; done) | (simp [*]; done), by repeat (first | exact Drawn0.refl _ | apply Drawn0.step)⟩
 ·replace c3 := Bool.eq_false_iff.mpr c3
  subst c3
  have H1 : ((math_IsInf.f a0 0).bind fun t143 => (some (!t143))) = some r := by rw [if_neg (show ¬ (false = true) by decide)] at H; exact H
  clear H
  have H := H1
  clear H1
  replace H := Option.bind_eq_some_iff.mp H
  obtain ⟨t143, A40, H⟩ := H
  replace H : (some (!t143)) = some r := H
  have A4 := Aside0.mk A40
  clear A40
  obtain rfl := Option.some.inj H
  go_enter Try.func57, Try.ntmps57
  go_wp2_with (first | ((with_reducible refine gate_callee (f := 44) rfl ?_); refine goesL_ (some 4) rfl rfl Try.func44 (by kernel_rfl) rfl #[.float .f64 (un pa0 a0)] rfl (by (try simp only [List.map_toArray, List.map_cons, List.map_nil]); first | done | rfl | (simp only [List.length_drop, List.length_take]; rfl)) ?_; (with_reducible refine (impl_missing.calls pa0 a0 false _ A2.out).mono ?_); rintro e w' ⟨rfl, ⟨nd, rfl⟩⟩; refine ⟨_, rfl, ?_⟩) | (go_at_call 77; (with_reducible refine (math_IsInf.calls pa0 a0 0 t143 _ A4.out).mono ?_); rintro e w' ⟨rfl, ⟨nd, rfl⟩⟩))
  go_ret
  exact ⟨by first | rfl | (simp; done) | (simp [*]; done), by repeat (first | exact Drawn0.refl _ | apply Drawn0.step)⟩

end Go.Proofs.Ytaophbkedbphnab.Q
