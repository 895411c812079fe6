/- Plain Lean functions with the same answers as the Go functions of this seat, and a proof for each that the Go code comes to just these answers; no condition. Written by a program of this session (the kit's printer, turned). -/
import Derived.Test.YtaophbkedbphnabQx0
namespace Go.Proofs.Ytaophbkedbphnab.Q
open Go.RowKit Go.Proofs.YtaophbkedbphnabW.PrintWords Go.Proofs.YtaophbkedbphnabW.PrintLast Go.Proofs.YtaophbkedbphnabW.PrintMore Go.Proofs.YtaophbkedbphnabW.PrintFlt
attribute [local go_sem] cmp_lss cmp_leq cmp_gtr cmp_geq cmp_eql cmp_neq flt_l flt_r fgt_l fgt_r feq_l feq_r fne_l fne_r ord_lt ord_gt ord_eq ord_ne conv_int conv_flt foi_fold run_store_flt
attribute [local go_sem] max2_int min2_int max_two min_two max_three min_three max_four min_four   -- for this text's walks alone
set_option linter.unusedVariables false
set_option linter.unusedSimpArgs false

/-! ### math_Round: function 81 -/
def math_Round.b (x : Nat) : Int := if Go.bits .and .u64 ((x : Int) / 4503599627370496) 2047 < 1023 then (if (Go.bits .and .u64 ((x : Int) / 4503599627370496) 2047 == 1022) = true then Go.bits .or .u64 (Go.bits .and .u64 (x : Int) 9223372036854775808) 4607182418800017408 else Go.bits .and .u64 (x : Int) 9223372036854775808) else if Go.bits .and .u64 ((x : Int) / 4503599627370496) 2047 < 1075 then Go.bits .andNot .u64 (IntKind.u64.wrap ((x : Int) + 2251799813685248 / 2 ^ (Go.bits .and .u64 ((x : Int) / 4503599627370496) 2047 - 1023).toNat)) (4503599627370495 / 2 ^ (Go.bits .and .u64 ((x : Int) / 4503599627370496) 2047 - 1023).toNat) else (x : Int)
def math_Round.f (a0 : Nat) : Option (Nat) := if isn a0 = true then none else some (cn (math_Round.b a0).toNat)
set_option maxHeartbeats 8000000 in
set_option maxRecDepth 100000 in
theorem math_Round.calls (pa0 : Nat) (a0 : Nat) (r : Nat) (w : World) (h : math_Round.f a0 = some r) : Calls Try.prog 81 #[.float .f64 (un pa0 a0)] w fun e w' => ∃ q0_ : Nat, e = .returned (.float .f64 (un q0_ r)) ∧ Drawn0 w w' := by
 have hx : un pa0 a0 = a0 ∧ r = cn (math_Round.b a0).toNat := by
  unfold math_Round.f at h
  by_cases c : isn a0 = true
  ·rw [if_pos c] at h; cases h
  ·rw [if_neg c] at h
   exact ⟨by unfold un; rw [if_neg (fun e => c (by rw [e]; exact isn_qnan))], (Option.some.inj h).symm⟩
 rw [hx.1]
 have hr := Aside0.mk hx.2
 clear hx h
 go_enter Try.func81, Try.ntmps81
 go_wp2_with fail
 rw [run_extc Try.func88 (by kernel_rfl) rfl (by kernel_rfl) (e := Extern.MathFloatBits.float64bits) (by kernel_rfl) _ (v := .int .u64 (a0 : Nat)) rfl]
 go_wp2_with fail
 all_goals
  rw [run_extc Try.func83 (by kernel_rfl) rfl (by kernel_rfl) (e := Extern.MathFloatBits.float64frombits) (by kernel_rfl) _ rfl]
  go_wp2
  go_ret
  refine ⟨(math_Round.b a0).toNat, ?_, Drawn0.refl _⟩
  rw [hr.out, un_cn]
  refine congrArg (fun z : Nat => Ending.returned (Value.float .f64 z)) (?_ : _ = (math_Round.b a0).toNat)
  unfold math_Round.b
  first
  | (rw [if_pos (by assumption), if_pos (by assumption)]; done)
  | (rw [if_pos (by assumption), if_neg (by first | assumption | (simp only [Bool.not_eq_true]; assumption))]; done)
  | (rw [if_neg (by omega), if_pos (by assumption)]; done)
  | (rw [if_neg (by omega), if_neg (by omega)]; first | done | rfl | exact (Int.toNat_natCast a0).symm)

end Go.Proofs.Ytaophbkedbphnab.Q
