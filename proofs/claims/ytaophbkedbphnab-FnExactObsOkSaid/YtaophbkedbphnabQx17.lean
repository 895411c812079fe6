/- Plain Lean functions with the same answers as the Go functions of this seat, and a proof for each that the Go code comes to just these answers; no condition. Written by a program of this session (the kit's printer, turned). -/
import Derived.Test.YtaophbkedbphnabQx0
namespace Go.Proofs.Ytaophbkedbphnab.Q
open Go.RowKit Go.Proofs.YtaophbkedbphnabW.PrintWords Go.Proofs.YtaophbkedbphnabW.PrintLast Go.Proofs.YtaophbkedbphnabW.PrintMore Go.Proofs.YtaophbkedbphnabW.PrintFlt
attribute [local go_sem] cmp_lss cmp_leq cmp_gtr cmp_geq cmp_eql cmp_neq flt_l flt_r fgt_l fgt_r feq_l feq_r fne_l fne_r ord_lt ord_gt ord_eq ord_ne conv_int conv_flt foi_fold run_store_flt
attribute [local go_sem] max2_int min2_int max_two min_two max_three min_three max_four min_four   -- for this text's walks alone
set_option linter.unusedVariables false
set_option linter.unusedSimpArgs false

/-! ### math_Abs: function 80 -/
def math_Abs.f (a0 : Nat) : Option (Nat) := some (fabs a0)
set_option maxHeartbeats 8000000 in
theorem math_Abs.calls (pa0 : Nat) (a0 : Nat) (r : Nat) (w : World) (h : math_Abs.f a0 = some r) : Calls Try.prog 80 #[.float .f64 (un pa0 a0)] w fun e w' => ∃ q0_ : Nat, e = .returned (.float .f64 (un q0_ r)) ∧ Drawn0 w w' := by
 obtain rfl := Option.some.inj h
 generalize hx : un pa0 a0 = x
 go_enter Try.func80, Try.ntmps80
 go_wp2_with fail
 rw [run_extc Try.func88 (by kernel_rfl) rfl (by kernel_rfl) (e := Extern.MathFloatBits.float64bits) (by kernel_rfl) _ (v := .int .u64 (x : Nat)) rfl]
 go_wp2_with fail
 rw [run_extc Try.func83 (by kernel_rfl) rfl (by kernel_rfl) (e := Extern.MathFloatBits.float64frombits) (by kernel_rfl) #[.int .u64 (Go.bits .andNot .u64 (x : Nat) 9223372036854775808)] (v := .float .f64 (x % 9223372036854775808)) (congrArg (fun z => (pure (Value.float .f64 z) : Sem Value)) (abs_bits x))]
 go_wp2
 go_ret
 exact ⟨x % 9223372036854775808, by rw [← hx, ← fabs_un]; rfl, by repeat (first | exact Drawn0.refl _ | apply Drawn0.step)⟩

end Go.Proofs.Ytaophbkedbphnab.Q
