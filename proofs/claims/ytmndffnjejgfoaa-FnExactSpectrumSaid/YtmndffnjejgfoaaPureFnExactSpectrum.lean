/- The plain statement of the law FnExactSpectrum: program and reference give the same spectrum of every row; no condition. -/
import Derived.Test.YtmndffnjejgfoaaSpec
import Derived.Test.YtmndffnjejgfoaaQx23
import Derived.Test.YtmndffnjejgfoaaQx24
import Derived.Test.YtmndffnjejgfoaaQx26
import Derived.Test.YtmndffnjejgfoaaQx27
set_option linter.unusedVariables false
set_option linter.unusedSimpArgs false
namespace Go.Proofs.Ytmndffnjejgfoaa.Pure
open Go.RowKit Go.Proofs.Ytmndffnjejgfoaa.Q Go.Proofs.Ytmndffnjejgfoaa.Gen Go.Proofs.YtmndffnjejgfoaaW.PrintWords Go.Proofs.YtmndffnjejgfoaaW.PrintMore

theorem turn_ev (n : Nat) (h : n = 1 ∨ n = 2 ∨ n = 4 ∨ n = 8 ∨ n = 16 ∨ n = 32 ∨ n = 64) : Ev (fun k => spec_l16Turn.f k (n : Int)) ((3 ^ (65536 / n) % 65537 : Nat) : Int) := by
  rcases h with rfl | rfl | rfl | rfl | rfl | rfl | rfl <;> exact Ev.of (spec_l16Turn.mono _) (k := 20) (by decide +kernel)

theorem turn3_ev (n : Nat) (h : n = 1 ∨ n = 2 ∨ n = 4 ∨ n = 8 ∨ n = 16 ∨ n = 32 ∨ n = 64) : Ev (fun k => impl_powMod.f k 3 ((65536 : Int) / (n : Int))) ((3 ^ (65536 / n) % 65537 : Nat) : Int) := by
  have := powMod_ev 3 (65536 / n) (by decide) (by have := Nat.div_le_self 65536 n; omega)
  simpa using this

theorem spectrum_both (l : List Int) (hl : l.length ≤ 1048576) : ∃ R b, Ev (fun k => spec_Spectrum.f k l) (R, b) ∧ Ev (fun k => impl_Spectrum.f k l) (R, b) ∧ R.length ≤ 1048576 := by
  simp only [spec_Spectrum.f, impl_Spectrum.f]
  cases hb : rowOk l with
  | false =>
    refine ⟨[], false, ?_, ?_, by simp⟩
    · refine Ev.bind (rowOk_spec l (by omega)) ?_
      rw [hb]
      exact evNeg (by decide) (Ev.now _)
    · refine Ev.bind (rowOk_impl l (by omega)) ?_
      rw [hb]
      exact evNeg (by decide) (Ev.now _)
  | true =>
    obtain ⟨h2, ha⟩ := rowOk_form hb
    refine ⟨sums l (3 ^ (65536 / l.length) % 65537), true, ?_, ?_, by rw [sums_length]; exact hl⟩
    · refine Ev.bind (rowOk_spec l (by omega)) ?_
      rw [hb]
      refine evPos rfl (Ev.bind (turn_ev _ h2) (Ev.bind (l16Sums_ev l _ (Nat.mod_lt _ (by decide)) (by omega)) (Ev.now _)))
    · refine Ev.bind (rowOk_impl l (by omega)) ?_
      rw [hb]
      refine evPos rfl (evNeg (by omega) (Ev.bind (turn3_ev _ h2) (Ev.bind (spectrum_ev l _ (Nat.mod_lt _ (by decide)) (by omega)) (Ev.now _))))

theorem FnExactSpectrum : laws_FnExactSpectrum.Pure := by
  intro l _ _ _
  refine Ev.rounds ?_
  simp only [laws_FnExactSpectrum.f]
  by_cases hl : (l.length : Int) > 1048576
  · exact evPos hl (Ev.now _)
  refine evNeg hl ?_
  have hn : l.length ≤ 1048576 := by omega
  obtain ⟨R, b, hs, hi, hR⟩ := spectrum_both l hn
  refine Ev.bind (toInt64S_ev l hn) (Ev.bind hs (Ev.bind (toInt64S_ev l hn) (Ev.bind hi (Ev.bind (eqInt64S_ev R (by omega)) (evPos rfl ?_)))))
  refine Ev.step (fun k => laws_FnExactSpectrum.j0.eq_2 _ _ _ _ _ _ _ k) ?_
  refine evNeg (by simp) ?_
  refine Ev.bind (toInt64S_ev l hn) (Ev.bind (eqInt64S_ev l (by omega)) (evPos rfl (Ev.bind (markInt64S_ev l 1 (by omega) (by omega)) (evNeg (by simp; omega) (Ev.bind (eqInt64S_ev R (by omega)) (evPos rfl ?_))))))
  refine Ev.step (fun k => laws_FnExactSpectrum.j1.eq_2 _ _ _ _ _ k) ?_
  refine evNeg (by simp) ?_
  refine Ev.bind (markInt64S_ev R 1 (by omega) (by omega)) (Ev.bind (heldInt64S_ev R.length 1 (by omega) (by omega)) (evNeg (by omega) (evPos rfl ?_)))
  refine Ev.bind (toInt64S_ev l hn) (Ev.bind hi (Ev.bind (eqInt64S_ev R (by omega)) (evPos rfl ?_)))
  refine Ev.step (fun k => laws_FnExactSpectrum.j2.eq_2 _ _ _ k) ?_
  refine evNeg (by simp) ?_
  exact Ev.bind (heldInt64S_ev R.length 1 (by omega) (by omega)) (evNeg (by omega) (evPos rfl (Ev.now _)))

end Go.Proofs.Ytmndffnjejgfoaa.Pure
