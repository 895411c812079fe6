/- Plain Lean functions with the same answers as the Go functions of this seat, and a proof for each that the Go code comes to just these answers; no condition. Written by a program of this session (the kit's printer, turned). -/
import Derived.Test.YtaophbkedbphnabQx0
namespace Go.Proofs.Ytaophbkedbphnab.Q
open Go.RowKit Go.Proofs.YtaophbkedbphnabW.PrintWords Go.Proofs.YtaophbkedbphnabW.PrintLast Go.Proofs.YtaophbkedbphnabW.PrintMore Go.Proofs.YtaophbkedbphnabW.PrintFlt
attribute [local go_sem] cmp_lss cmp_leq cmp_gtr cmp_geq cmp_eql cmp_neq flt_l flt_r fgt_l fgt_r feq_l feq_r fne_l fne_r ord_lt ord_gt ord_eq ord_ne conv_int conv_flt foi_fold run_store_flt
attribute [local go_sem] max2_int min2_int max_two min_two max_three min_three max_four min_four   -- for this text's walks alone
set_option linter.unusedVariables false
set_option linter.unusedSimpArgs false

/-! ### spec_Known: function 29 -/
def spec_Known.f (a0 : Nat) : Option (Bool) := some (feq (fsub a0 a0) 0)
set_option maxHeartbeats 8000000 in
set_option maxRecDepth 100000 in
theorem spec_Known.calls (pa0 : Nat) (a0 : Nat) (r : Bool) (w : World) (h : spec_Known.f a0 = some r) :
  Calls Try.prog 29 #[.float .f64 (un pa0 a0)] w fun e w' => e = .returned (.bool r) ∧ Drawn0 w w' := by
 have H : (some (feq (fsub a0 a0) 0)) = some r := h
 clear h
 obtain rfl := Option.some.inj H
 go_enter Try.func29, Try.ntmps29
 go_wp2_with (first | ((with_reducible refine gate_dst (N := 6) rfl ?_); refine fop_event rfl (N := 6) rfl (op := .sub) rfl rfl pa0 a0 pa0 a0 rfl rfl ?hA ?hB fsub rfl ?_; (case hA => first | rfl | exact (un_zero _).symm); (case hB => first | rfl | exact (un_zero _).symm); rintro pb104 _ ⟨nd, rfl⟩))
 go_ret
 exact ⟨by first | rfl | (simp; done) | (simp [*]; done), by repeat (first | exact Drawn0.refl _ | apply Drawn0.step)⟩

end Go.Proofs.Ytaophbkedbphnab.Q
