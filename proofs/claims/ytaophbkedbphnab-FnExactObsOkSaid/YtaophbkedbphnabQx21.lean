/- Plain Lean functions with the same answers as the Go functions of this seat, and a proof for each that the Go code comes to just these answers; no condition. Written by a program of this session (the kit's printer, turned). -/
import Derived.Test.YtaophbkedbphnabQx0
import Derived.Test.YtaophbkedbphnabQx13
namespace Go.Proofs.Ytaophbkedbphnab.Q
open Go.RowKit Go.Proofs.YtaophbkedbphnabW.PrintWords Go.Proofs.YtaophbkedbphnabW.PrintLast Go.Proofs.YtaophbkedbphnabW.PrintMore Go.Proofs.YtaophbkedbphnabW.PrintFlt
attribute [local go_sem] cmp_lss cmp_leq cmp_gtr cmp_geq cmp_eql cmp_neq flt_l flt_r fgt_l fgt_r feq_l feq_r fne_l fne_r ord_lt ord_gt ord_eq ord_ne conv_int conv_flt foi_fold run_store_flt
attribute [local go_sem] max2_int min2_int max_two min_two max_three min_three max_four min_four   -- for this text's walks alone
set_option linter.unusedVariables false
set_option linter.unusedSimpArgs false

/-! ### impl_Same: function 82 -/
def impl_Same.f (a0 : Nat) (a1 : Nat) : Option (Bool) := if isn a0 = true then none else if isn a1 = true then none else some (decide (a0 = a1))
set_option maxHeartbeats 8000000 in
set_option maxRecDepth 100000 in
theorem impl_Same.calls (pa0 : Nat) (a0 : Nat) (pa1 : Nat) (a1 : Nat) (r : Bool) (w : World) (h : impl_Same.f a0 a1 = some r) : Calls Try.prog 82 #[.float .f64 (un pa0 a0), .float .f64 (un pa1 a1)] w fun e w' => e = .returned (.bool r) ∧ Drawn0 w w' := by
 have un_ : ∀ p x : Nat, isn x = false → un p x = x := fun p x c => by unfold un; rw [if_neg (fun e => by rw [e, isn_qnan] at c; cases c)]
 have fne_ : ∀ x : Nat, isn x = false → fne x x = false := fun x c => by
  unfold fne isn Ieee.Format.order at *
  cases hd : Ieee.double.read x with
  | number s m e => simp only [Ieee.Datum.order]; rw [Int.compare_eq_eq.2 rfl]; rfl
  | infinity s => cases s <;> rfl
  | nan s f => rw [hd] at c; cases c
 have hx : isn a0 = false ∧ isn a1 = false ∧ r = decide (a0 = a1) := by
  unfold impl_Same.f at h
  by_cases c : isn a0 = true
  ·rw [if_pos c] at h; cases h
  ·by_cases c' : isn a1 = true
   ·rw [if_neg c, if_pos c'] at h; cases h
   ·rw [if_neg c, if_neg c'] at h
    exact ⟨by simpa using c, by simpa using c', (Option.some.inj h).symm⟩
 obtain ⟨h0, h1, rfl⟩ := hx
 have mc := Aside0.mk (show ∀ w, Calls Try.prog 44 #[.float .f64 a0] w fun e w' => e = .returned (.bool false) ∧ Drawn0 w w' from fun w => by
  have := impl_missing.calls a0 a0 false w (congrArg some (fne_ a0 h0))
  rwa [un_self] at this)
 rw [un_ pa0 a0 h0, un_ pa1 a1 h1]
 clear un_ fne_ h h0 h1
 go_enter Try.func82, Try.ntmps82
 go_wp2_with (first | ((with_reducible refine gate_callee (f := 44) rfl ?_); refine goesL_ (some 6) rfl rfl Try.func44 (by kernel_rfl) rfl #[.float .f64 a0] rfl (by (try simp only [List.map_toArray, List.map_cons, List.map_nil]); first | done | rfl) ?_; (with_reducible refine (mc.out _).mono ?_); rintro e w' ⟨rfl, ⟨nd, rfl⟩⟩; refine ⟨_, rfl, ?_⟩))
 rw [run_extc Try.func88 (by kernel_rfl) rfl (by kernel_rfl) (e := Extern.MathFloatBits.float64bits) (by kernel_rfl) _ (v := .int .u64 (a0 : Nat)) rfl]
 go_wp2_with fail
 rw [run_extc Try.func88 (by kernel_rfl) rfl (by kernel_rfl) (e := Extern.MathFloatBits.float64bits) (by kernel_rfl) _ (v := .int .u64 (a1 : Nat)) rfl]
 go_wp2
 go_ret
 refine ⟨congrArg (fun z => Ending.returned (Value.bool z)) ?_, by repeat (first | exact Drawn0.refl _ | apply Drawn0.step)⟩
 rw [Bool.eq_iff_iff, beq_iff_eq, decide_eq_true_iff]
 exact Int.ofNat_inj

end Go.Proofs.Ytaophbkedbphnab.Q
