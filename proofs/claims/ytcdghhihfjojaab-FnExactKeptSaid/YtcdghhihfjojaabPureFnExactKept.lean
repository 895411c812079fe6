/- The plain statement of the law FnExactKept: program and reference keep the same readings of every list, and hand back a list of their own; no condition. -/
import Derived.Test.YtcdghhihfjojaabTKept
import Derived.Test.YtcdghhihfjojaabQx14
import Derived.Test.YtcdghhihfjojaabQx2
import Derived.Test.YtcdghhihfjojaabQx5
set_option linter.unusedVariables false
set_option linter.unusedSimpArgs false
namespace Go.Proofs.Ytcdghhihfjojaab.Pure
open Go.RowKit Go.Proofs.Ytcdghhihfjojaab.Q Go.Proofs.Ytcdghhihfjojaab.Gen Go.Proofs.YtcdghhihfjojaabW.PrintWords Go.Proofs.YtcdghhihfjojaabW.PrintMore Go.Proofs.YtcdghhihfjojaabW.PrintFlt

def keptL (l : List S69) : Nat → List S71
  | 0 => []
  | j + 1 => if (l.getD j z69).f3 = 0 then keptL l j ++ [⟨(l.getD j z69).f0, (l.getD j z69).f1, (l.getD j z69).f2⟩] else keptL l j
theorem keptL_length (l : List S69) : ∀ j, (keptL l j).length ≤ j := by
  intro j
  induction j with
  | zero => simp [keptL]
  | succ j ih =>
    unfold keptL
    split
    · rw [List.length_append]
      simp
      omega
    · omega

theorem kept_spec (l : List S69) (h : l.length ≤ 300) : Ev (fun k => spec_Kept.l0 k l [] 0) (keptL l l.length) := by
  have main : ∀ t j, j + t = l.length → Ev (fun k => spec_Kept.l0 k l (keptL l j) (j : Int)) (keptL l l.length) := by
    intro t
    induction t with
    | zero =>
      intro j hj
      obtain rfl : j = l.length := by omega
      refine Ev.step (fun k => spec_Kept.l0.eq_2 _ _ _ k) (evNeg (by omega) ?_)
      exact Ev.step (fun k => spec_Kept.j1.eq_2 _ _ _ _ k) (evNeg (by decide) (Ev.now _))
    | succ t ih =>
      intro j hj
      have IH := ih (j + 1) (by omega)
      have hL := keptL_length l j
      refine Ev.step (fun k => spec_Kept.l0.eq_2 _ _ _ k) (evPos (by omega) ?_)
      refine Ev.step (fun k => spec_Kept.j1.eq_2 _ _ _ _ k) (evPos (by simp; omega) (evPos (by omega) (evPos (by omega) ?_)))
      rw [up1 (by omega)]
      simp only [rdn69]
      by_cases c : (l.getD j z69).f3 = 0
      · refine evPos c (evPos (by omega) ?_)
        rw [keptL, if_pos c] at IH
        exact IH
      · refine evNeg c ?_
        rw [keptL, if_neg c] at IH
        exact IH
  exact main l.length 0 (by omega)
theorem kept_impl (l : List S69) (h : l.length ≤ 300) : Ev (fun k => impl_Kept.l0 k [] l (l.length : Int) 0) (keptL l l.length) := by
  have main : ∀ t j, j + t = l.length → Ev (fun k => impl_Kept.l0 k (keptL l j) l (l.length : Int) (j : Int)) (keptL l l.length) := by
    intro t
    induction t with
    | zero =>
      intro j hj
      obtain rfl : j = l.length := by omega
      exact Ev.step (fun k => impl_Kept.l0.eq_2 _ _ _ _ k) (evNeg (by omega) (Ev.now _))
    | succ t ih =>
      intro j hj
      have IH := ih (j + 1) (by omega)
      have hL := keptL_length l j
      refine Ev.step (fun k => impl_Kept.l0.eq_2 _ _ _ _ k) (evPos (by omega) (evPos (by omega) (evPos (by omega) ?_)))
      rw [up1 (by omega)]
      simp only [rdn69]
      by_cases c : (l.getD j z69).f3 = 0
      · refine evPos c (evPos (by omega) ?_)
        rw [keptL, if_pos c] at IH
        exact IH
      · refine evNeg c ?_
        rw [keptL, if_neg c] at IH
        exact IH
  exact main l.length 0 (by omega)

theorem kept_both (l : List S69) (h : l.length ≤ 1048576) : ∃ R, Ev (fun k => spec_Kept.f k l) R ∧ Ev (fun k => impl_Kept.f k l) R ∧ R.length ≤ 1048576 := by
  simp only [spec_Kept.f, impl_Kept.f]
  by_cases c : l.length ≤ 300
  · exact ⟨keptL l l.length, kept_spec l c, evNeg (by omega) (kept_impl l c), by have := keptL_length l l.length; omega⟩
  · refine ⟨[], ?_, evPos (by omega) (Ev.now _), by simp⟩
    refine Ev.step (fun k => spec_Kept.l0.eq_2 _ _ _ k) (evPos (by omega) ?_)
    exact Ev.step (fun k => spec_Kept.j1.eq_2 _ _ _ _ k) (evNeg (by simp; omega) (Ev.now _))

theorem FnExactKept : laws_FnExactKept.Pure := by
  intro l hl0
  refine Ev.rounds ?_
  simp only [laws_FnExactKept.f]
  by_cases hl : l.length ≤ 1048576
  rotate_left
  · exact Ev.bind (szJudgedS_big l hl0 hl) (evPos (by decide) (Ev.now _))
  have hc : (l.map convJudged).length ≤ 1048576 := by rw [List.length_map]; exact hl
  obtain ⟨R, hs, hi, hR⟩ := kept_both (l.map convJudged) hc
  refine Ev.bind (szJudgedS_ok _ hl) ?_
  refine evNeg (by first | omega | (simp; omega) | simp) ?_
  refine Ev.bind (toJudgedS_ev _ (by first | assumption | omega | (simp; omega))) ?_
  refine Ev.bind hs ?_
  refine Ev.bind (toJudgedS_ev _ (by first | assumption | omega | (simp; omega))) ?_
  refine Ev.bind hi ?_
  refine Ev.bind (eqReadS_ev _ (by first | assumption | omega | (simp; omega))) ?_
  refine evPos (by first | rfl | trivial | simp) ?_
  refine Ev.bind (toJudgedS_ev _ (by first | assumption | omega | (simp; omega))) ?_
  refine Ev.bind (eqJudgedS_ev _ (by first | assumption | omega | (simp; omega))) ?_
  refine evPos (by first | rfl | trivial | simp) ?_
  refine Ev.bind (markJudgedS_ev _ 1 (by first | omega | (simp; omega)) (by omega)) ?_
  refine evNeg (by first | omega | (simp; omega) | simp) ?_
  refine Ev.bind (eqReadS_ev _ (by first | assumption | omega | (simp; omega))) ?_
  refine Ev.step (fun k => laws_FnExactKept.j0.eq_2 _ _ _ _ k) ?_
  refine evNeg (by simp) ?_
  refine Ev.bind (markReadS_ev _ 1 (by first | omega | (simp; omega)) (by omega)) ?_
  refine Ev.bind (heldReadS_ev _ 1 (by omega) (by omega)) ?_
  refine evNeg (by first | omega | (simp; omega) | simp) ?_
  refine evPos (by first | rfl | trivial | simp) ?_
  refine Ev.bind (toJudgedS_ev _ (by first | assumption | omega | (simp; omega))) ?_
  refine Ev.bind hi ?_
  refine Ev.bind (eqReadS_ev _ (by first | assumption | omega | (simp; omega))) ?_
  refine evPos (by first | rfl | trivial | simp) ?_
  refine Ev.bind (heldReadS_ev _ 1 (by omega) (by omega)) ?_
  refine evNeg (by first | omega | (simp; omega) | simp) ?_
  refine evPos (by first | rfl | trivial | simp) ?_
  exact Ev.now _
end Go.Proofs.Ytcdghhihfjojaab.Pure
