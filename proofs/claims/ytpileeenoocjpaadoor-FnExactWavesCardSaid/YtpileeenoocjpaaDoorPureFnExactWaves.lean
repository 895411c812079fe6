/- The plain statement of the law FnExactWaves: program and reference find the same waves of every row; no condition. -/
import Derived.Test.YtpileeenoocjpaaDoorWavesL
import Derived.Test.YtpileeenoocjpaaDoorQx10
import Derived.Test.YtpileeenoocjpaaDoorQx3
import Derived.Test.YtpileeenoocjpaaDoorQx7
set_option linter.unusedVariables false
set_option linter.unusedSimpArgs false
namespace Go.Proofs.YtpileeenoocjpaaDoor.Pure
open Go.RowKit Go.Proofs.YtpileeenoocjpaaDoor.Q Go.Proofs.YtpileeenoocjpaaDoor.Gen Go.Proofs.YtpileeenoocjpaaDoorW.PrintWords Go.Proofs.YtpileeenoocjpaaDoorW.PrintMore Go.Proofs.YtpileeenoocjpaaDoorW.PrintFlt

theorem waves_both (l : List S42) : ∃ R : List S42, R.length ≤ 1048576 ∧ Ev (fun k => spec_Waves.f k l) R ∧ Ev (fun k => impl_Waves.f k l sinT) R := by
  simp only [spec_Waves.f, impl_Waves.f, long_spec, long_impl]
  cases h : longOk (l.length : Int) with
  | false => exact ⟨[], by simp, Ev.bind (Ev.now _) (evNeg (by decide) (Ev.now _)), Ev.bind (Ev.now _) (evNeg (by decide) (Ev.now _))⟩
  | true =>
    have hl := long_le h
    exact ⟨_, by rw [rowW_length]; omega, Ev.bind (Ev.now _) (evPos rfl (Ev.bind (turned_spec (-1) l hl) (Ev.now _))), Ev.bind (Ev.now _) (evPos rfl (Ev.bind (turned_impl (-1) l hl) (Ev.now _)))⟩

theorem FnExactWaves : laws_FnExactWaves.Pure := by
  intro l hl0
  refine Ev.rounds ?_
  show Ev (fun k => laws_FnExactWaves.f k l sinT) true
  simp only [laws_FnExactWaves.f]
  by_cases hl : l.length ≤ 1048576
  rotate_left
  · exact Ev.bind (szPairS_big l hl0 hl) (evPos (by decide) (Ev.now _))
  have hc : (l.map convPair).length ≤ 1048576 := by rw [List.length_map]; exact hl
  obtain ⟨R, hR, hs, hi⟩ := waves_both (l.map convPair)
  refine Ev.bind (szPairS_ok _ hl) ?_
  refine evNeg (by first | omega | (simp; omega) | simp) ?_
  refine Ev.bind (toPairS_ev _ (by first | assumption | omega | (simp; omega))) ?_
  refine Ev.bind hs ?_
  refine Ev.bind (toPairS_ev _ (by first | assumption | omega | (simp; omega))) ?_
  refine Ev.bind hi ?_
  refine Ev.bind (eqPairS_ev _ (by first | assumption | omega | (simp; omega))) ?_
  refine evPos (by first | rfl | trivial | simp) ?_
  refine Ev.bind (toPairS_ev _ (by first | assumption | omega | (simp; omega))) ?_
  refine Ev.bind (eqPairS_ev _ (by first | assumption | omega | (simp; omega))) ?_
  refine evPos (by first | rfl | trivial | simp) ?_
  first | refine Ev.bind (markPairS_ev _ 1 (by first | omega | (simp; omega)) (by omega)) ?_ | refine Ev.bind (markPairS_ev _ _ (by first | omega | (simp; omega)) (by omega)) ?_
  refine evNeg (by first | omega | (simp; omega) | simp) ?_
  refine Ev.bind (eqPairS_ev _ (by first | assumption | omega | (simp; omega))) ?_
  refine Ev.step (fun k => laws_FnExactWaves.j0.eq_2 _ _ _ _ _ k) ?_
  refine evNeg (by simp) ?_
  first | refine Ev.bind (markPairS_ev _ 1 (by first | omega | (simp; omega)) (by omega)) ?_ | refine Ev.bind (markPairS_ev _ _ (by first | omega | (simp; omega)) (by omega)) ?_
  refine Ev.bind (heldPairS_ev _ 1 (by omega) (by omega)) ?_
  refine evNeg (by first | omega | (simp; omega) | simp) ?_
  refine evPos (by first | rfl | trivial | simp) ?_
  refine Ev.bind (toPairS_ev _ (by first | assumption | omega | (simp; omega))) ?_
  refine Ev.bind hi ?_
  refine Ev.bind (eqPairS_ev _ (by first | assumption | omega | (simp; omega))) ?_
  refine evPos (by first | rfl | trivial | simp) ?_
  refine Ev.bind (heldPairS_ev _ 1 (by omega) (by omega)) ?_
  refine evNeg (by first | omega | (simp; omega) | simp) ?_
  refine evPos (by first | rfl | trivial | simp) ?_
  exact Ev.now _
end Go.Proofs.YtpileeenoocjpaaDoor.Pure
