/- The plain statement of the law FnExactUnspectrum: program and reference give the same row back for every spectrum; no condition. -/
import Derived.Test.YtmndffnjejgfoaaSpec
import Derived.Test.YtmndffnjejgfoaaQx24
import Derived.Test.YtmndffnjejgfoaaQx28
import Derived.Test.YtmndffnjejgfoaaQx29
import Derived.Test.YtmndffnjejgfoaaQx30
set_option linter.unusedVariables false
set_option linter.unusedSimpArgs false
namespace Go.Proofs.Ytmndffnjejgfoaa.Pure
open Go.RowKit Go.Proofs.Ytmndffnjejgfoaa.Q Go.Proofs.Ytmndffnjejgfoaa.Gen Go.Proofs.YtmndffnjejgfoaaW.PrintWords Go.Proofs.YtmndffnjejgfoaaW.PrintMore

theorem power_ev (x e : Nat) (hx : x < 65537) (he : e < 4611686018427387904) : Ev (fun k => spec_l16Power.f k (x : Int) (e : Int)) ((x ^ e % 65537 : Nat) : Int) := by
  simp only [spec_l16Power.f]
  refine count (fun k i (s : Int) => spec_l16Power.l0 k (x : Int) (e : Int) s i) e (fun i => ((x ^ i % 65537 : Nat) : Int)) _ ?_ ?_ 0 (by omega)
  · intro i hi
    refine ⟨0, fun k _ => ?_⟩
    simp only [spec_l16Power.l0]
    rw [if_pos (by omega), up1 (by omega), mulmod (Nat.mod_lt _ (by decide)) hx]
    simp only [Nat.pow_succ, Nat.mod_mul_mod]
  · refine Ev_succ fun k => ?_
    simp only [spec_l16Power.l0]
    rw [if_neg (by omega)]

def powP (t e : Nat) : Nat := t ^ e % 65537
theorem powP_lt (t e : Nat) : powP t e < 65537 := Nat.mod_lt _ (by decide)
theorem powP_mod (t e : Nat) (h : t < 65537) (he : e < 4611686018427387904) : Ev (fun k => impl_powMod.f k (t : Int) (e : Int)) ((powP t e : Nat) : Int) := powMod_ev t e h he
theorem powP_power (t e : Nat) (h : t < 65537) (he : e < 4611686018427387904) : Ev (fun k => spec_l16Power.f k (t : Int) (e : Int)) ((powP t e : Nat) : Int) := power_ev t e h he
def invT (t : Nat) : Nat := powP t 65535
theorem invT_lt (t : Nat) : invT t < 65537 := powP_lt _ _
theorem invT_ev (t : Nat) (h : t < 65537) : Ev (fun k => impl_powMod.f k (t : Int) 65535) ((invT t : Nat) : Int) := powP_mod t 65535 h (by decide)
theorem invP_ev (t : Nat) (h : t < 65537) : Ev (fun k => spec_l16Power.f k (t : Int) 65535) ((invT t : Nat) : Int) := powP_power t 65535 h (by decide)

theorem inv_turn (n : Nat) (h : n = 1 ∨ n = 2 ∨ n = 4 ∨ n = 8 ∨ n = 16 ∨ n = 32 ∨ n = 64) : (3 ^ (65536 / n) % 65537) ^ (n - 1) % 65537 = invT (3 ^ (65536 / n) % 65537) := by
  rcases h with rfl | rfl | rfl | rfl | rfl | rfl | rfl <;> decide +kernel

def scaled (xs : List Int) (b : Int) : List Int := xs.map fun x => Int.tmod (wrap64 (x * b)) 65537
theorem scaled_length (xs : List Int) (b : Int) : (scaled xs b).length = xs.length := by simp [scaled]
theorem scaled_get (xs : List Int) (b : Int) (i : Nat) (hi : i < xs.length) : (scaled xs b).getD i 0 = Int.tmod (wrap64 (xs.getD i 0 * b)) 65537 := by
  simp [scaled, List.getD_eq_getElem?_getD, hi]

theorem scale_spec (xs : List Int) (b : Int) (h : xs.length ≤ 1048576) : Ev (fun k => spec_Unspectrum.l0 k xs b 0) (scaled xs b, true) := by
  have := count (fun k i (s : List Int) => spec_Unspectrum.l0 k s b i) xs.length (fun i => mixed (scaled xs b) xs i) (scaled xs b, true) ?_ ?_ 0 (by omega)
  · simpa [mixed_zero] using this
  · intro i hi
    refine ⟨0, fun k _ => ?_⟩
    simp only [spec_Unspectrum.l0]
    rw [if_pos (by rw [mixed_length _ _ _ (by rw [scaled_length]), scaled_length]; omega), if_pos (by omega), up1 (by omega), Int.toNat_natCast, rd_nat, mixed_get_right _ _ _ _ _ (Nat.le_refl _) (by rw [scaled_length]; omega), ← scaled_get _ _ _ hi, mixed_set _ _ _ _ (by rw [scaled_length]) (by rw [scaled_length]; exact hi)]
  · refine Ev_succ fun k => ?_
    simp only [spec_Unspectrum.l0]
    have := mixed_all (scaled xs b) xs (by rw [scaled_length])
    rw [scaled_length] at this
    rw [this, if_neg (by rw [scaled_length]; omega)]

theorem scale_impl (xs : List Int) (b : Int) (h : xs.length ≤ 1048576) : Ev (fun k => impl_Unspectrum.l0 k xs b (xs.length : Int) 0) (scaled xs b, true) := by
  have := count (fun k i (s : List Int) => impl_Unspectrum.l0 k s b (xs.length : Int) i) xs.length (fun i => mixed (scaled xs b) xs i) (scaled xs b, true) ?_ ?_ 0 (by omega)
  · simpa [mixed_zero] using this
  · intro i hi
    refine ⟨0, fun k _ => ?_⟩
    simp only [impl_Unspectrum.l0]
    rw [if_pos (by omega), if_pos (by omega), if_pos (by rw [mixed_length _ _ _ (by rw [scaled_length]), scaled_length]; omega), up1 (by omega), Int.toNat_natCast, rd_nat, mixed_get_right _ _ _ _ _ (Nat.le_refl _) (by rw [scaled_length]; omega), ← scaled_get _ _ _ hi, mixed_set _ _ _ _ (by rw [scaled_length]) (by rw [scaled_length]; exact hi)]
  · refine Ev_succ fun k => ?_
    simp only [impl_Unspectrum.l0]
    have := mixed_all (scaled xs b) xs (by rw [scaled_length])
    rw [scaled_length] at this
    rw [this, if_neg (by omega)]

theorem unspectrum_both (l : List Int) (hl : l.length ≤ 1048576) : ∃ R b, Ev (fun k => spec_Unspectrum.f k l) (R, b) ∧ Ev (fun k => impl_Unspectrum.f k l) (R, b) ∧ R.length ≤ 1048576 := by
  simp only [spec_Unspectrum.f, impl_Unspectrum.f]
  cases hb : rowOk l with
  | false =>
    refine ⟨[], false, ?_, ?_, by simp⟩
    · refine Ev.bind (rowOk_spec l (by omega)) ?_
      rw [hb]
      exact evNeg (by decide) (Ev.now _)
    · refine Ev.bind (rowOk_impl l (by omega)) ?_
      rw [hb]
      exact evNeg (by decide) (Ev.now _)
  | true =>
    obtain ⟨h2, ha⟩ := rowOk_form hb
    have hle : l.length < 65537 := by omega
    have h64 : l.length ≤ 64 := by omega
    have hlt : ∀ x : Nat, x % 65537 < 65537 := fun x => Nat.mod_lt _ (by decide)
    have e1 : wrap64 ((l.length : Int) - 1) = ((l.length - 1 : Nat) : Int) := by rw [w64 (by omega) (by omega)]; omega
    refine ⟨scaled (sums l (invT (3 ^ (65536 / l.length) % 65537))) ((invT l.length : Nat) : Int), true, ?_, ?_, by rw [scaled_length, sums_length]; exact hl⟩
    · refine Ev.bind (rowOk_spec l (by omega)) ?_
      rw [hb]
      refine evPos rfl (Ev.bind (turn_ev _ h2) ?_)
      rw [e1]
      refine Ev.bind (power_ev _ _ (hlt _) (by omega)) (Ev.bind (l16Sums_ev l _ (hlt _) h64) (Ev.bind (invP_ev l.length hle) ?_))
      rw [inv_turn _ h2]
      exact scale_spec _ _ (by rw [sums_length]; exact hl)
    · refine Ev.bind (rowOk_impl l (by omega)) ?_
      rw [hb]
      refine evPos rfl (evNeg (by omega) (Ev.bind (turn3_ev _ h2) (Ev.bind (invT_ev _ (hlt _)) (Ev.bind (spectrum_ev l _ (invT_lt _) h64) (Ev.bind (invT_ev l.length hle) ?_)))))
      exact scale_impl _ _ (by rw [sums_length]; exact hl)

theorem FnExactUnspectrum : laws_FnExactUnspectrum.Pure := by
  intro l _ _ _
  refine Ev.rounds ?_
  simp only [laws_FnExactUnspectrum.f]
  by_cases hl : (l.length : Int) > 1048576
  · exact evPos hl (Ev.now _)
  refine evNeg hl ?_
  have hn : l.length ≤ 1048576 := by omega
  obtain ⟨R, b, hs, hi, hR⟩ := unspectrum_both l hn
  refine Ev.bind (toInt64S_ev l hn) (Ev.bind hs (Ev.bind (toInt64S_ev l hn) (Ev.bind hi (Ev.bind (eqInt64S_ev R (by omega)) (evPos rfl ?_)))))
  refine Ev.step (fun k => laws_FnExactUnspectrum.j0.eq_2 _ _ _ _ _ _ _ k) ?_
  refine evNeg (by simp) ?_
  refine Ev.bind (toInt64S_ev l hn) (Ev.bind (eqInt64S_ev l (by omega)) (evPos rfl (Ev.bind (markInt64S_ev l 1 (by omega) (by omega)) (evNeg (by simp; omega) (Ev.bind (eqInt64S_ev R (by omega)) (evPos rfl ?_))))))
  refine Ev.step (fun k => laws_FnExactUnspectrum.j1.eq_2 _ _ _ _ _ k) ?_
  refine evNeg (by simp) ?_
  refine Ev.bind (markInt64S_ev R 1 (by omega) (by omega)) (Ev.bind (heldInt64S_ev R.length 1 (by omega) (by omega)) (evNeg (by omega) (evPos rfl ?_)))
  refine Ev.bind (toInt64S_ev l hn) (Ev.bind hi (Ev.bind (eqInt64S_ev R (by omega)) (evPos rfl ?_)))
  refine Ev.step (fun k => laws_FnExactUnspectrum.j2.eq_2 _ _ _ k) ?_
  refine evNeg (by simp) ?_
  exact Ev.bind (heldInt64S_ev R.length 1 (by omega) (by omega)) (evNeg (by omega) (evPos rfl (Ev.now _)))

end Go.Proofs.Ytmndffnjejgfoaa.Pure
