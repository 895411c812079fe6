/- The plain statement of the law FnExactCut: program and reference keep the same waves of every row, and hand back a list of their own; no condition. -/
import Derived.Test.YtmndffnjejgfoabTPair
import Derived.Test.YtmndffnjejgfoabQx1
import Derived.Test.YtmndffnjejgfoabQx2
import Derived.Test.YtmndffnjejgfoabQx3
import Derived.Test.YtmndffnjejgfoabQx7
set_option linter.unusedVariables false
set_option linter.unusedSimpArgs false
namespace Go.Proofs.Ytmndffnjejgfoab.Pure
open Go.RowKit Go.Proofs.Ytmndffnjejgfoab.Q Go.Proofs.Ytmndffnjejgfoab.Gen Go.Proofs.YtmndffnjejgfoabW.PrintWords Go.Proofs.YtmndffnjejgfoabW.PrintMore Go.Proofs.YtmndffnjejgfoabW.PrintFlt

theorem long_both (x : Int) : ∃ b, spec_l16Long.f x = some b ∧ impl_waveLength.f x = some b := by
  unfold spec_l16Long.f impl_waveLength.f
  repeat' split
  all_goals exact ⟨_, rfl, rfl⟩

def cutE (l : List S45) (keep : Int) (i : Nat) : S45 := if mn (i : Int) ((l.length : Int) - i) ≤ keep then l.getD i z45 else z45
def cutL (l : List S45) (keep : Int) (n : Nat) : List S45 := (List.range n).map (cutE l keep)
theorem cutL_length (l : List S45) (keep : Int) (n : Nat) : (cutL l keep n).length = n := by simp [cutL]
theorem cutL_succ (l : List S45) (keep : Int) (n : Nat) : cutL l keep (n + 1) = cutL l keep n ++ [cutE l keep n] := by simp [cutL, List.range_succ]
theorem cutL_get (l : List S45) (keep : Int) (n i : Nat) (h : i < n) : (cutL l keep n).getD i z45 = cutE l keep i := by simp [cutL, List.getD_eq_getElem?_getD, h]

theorem cut_spec (l : List S45) (keep : Int) (h : l.length ≤ 1048576) : Ev (fun k => spec_Cut.l0 k l keep [] (l.length : Int) 0) (cutL l keep l.length) := by
  refine count (fun k i (s : List S45) => spec_Cut.l0 k l keep s (l.length : Int) i) l.length (fun j => cutL l keep j) (cutL l keep l.length) ?_ ?_ 0 (by omega)
  · intro j hj
    refine ⟨0, fun k _ => ?_⟩
    simp only [spec_Cut.l0]
    rw [if_pos (by omega), w64 (x := (l.length : Int) - j) (by omega) (by omega), up1 (by omega), cutL_succ]
    by_cases hc : mn (j : Int) ((l.length : Int) - j) ≤ keep
    · rw [if_pos hc, if_pos (by omega), if_pos (by omega), if_pos (by rw [cutL_length]; omega), cutE, if_pos hc, rdn45]
    · rw [if_neg hc, if_pos (by rw [cutL_length]; omega), cutE, if_neg hc]
      rfl
  · refine Ev_succ fun k => ?_
    simp only [spec_Cut.l0]
    rw [if_neg (by omega)]

theorem mixed_keep {α} (xs ys : List α) (d : α) (j : Nat) (hl : ys.length = xs.length) (hj : j < xs.length) (h : xs.getD j d = ys.getD j d) : mixed xs ys j = mixed xs ys (j + 1) := by
  rw [← mixed_set xs ys d j hl hj, h, ← mixed_get_right xs ys d j j (Nat.le_refl _) (by omega)]
  have hL : j < (mixed xs ys j).length := by rw [mixed_length _ _ _ hl]; exact hj
  rw [List.getD_eq_getElem?_getD, List.getElem?_eq_getElem hL]
  simp

theorem cut_impl (l : List S45) (keep : Int) (h : l.length ≤ 1048576) : Ev (fun k => impl_Cut.l0 k l keep (l.length : Int) (List.replicate l.length z45) (l.length : Int) 0) (cutL l keep l.length) := by
  have := count (fun k i (s : List S45) => impl_Cut.l0 k l keep (l.length : Int) s (l.length : Int) i) l.length (fun j => mixed (cutL l keep l.length) (List.replicate l.length z45) j) (cutL l keep l.length) ?_ ?_ 0 (by omega)
  · simpa [mixed_zero] using this
  · intro j hj
    refine ⟨0, fun k _ => ?_⟩
    have hL : (mixed (cutL l keep l.length) (List.replicate l.length z45) j).length = l.length := by rw [mixed_length _ _ _ (by simp [cutL_length]), cutL_length]
    simp only [impl_Cut.l0]
    rw [if_pos (by omega), w64 (x := (l.length : Int) - j) (by omega) (by omega), up1 (by omega)]
    by_cases hc : mn (j : Int) ((l.length : Int) - j) ≤ keep
    · rw [if_pos hc, if_pos (by omega), if_pos (by omega), if_pos (by rw [hL]; omega), rdn45, Int.toNat_natCast]
      have hm := mixed_set (cutL l keep l.length) (List.replicate l.length z45) z45 j (by simp [cutL_length]) (by rw [cutL_length]; exact hj)
      rw [cutL_get _ _ _ _ hj, cutE, if_pos hc] at hm
      rw [← hm]
    · rw [if_neg hc, ← mixed_keep _ _ z45 j (by simp [cutL_length]) (by rw [cutL_length]; exact hj)]
      rw [cutL_get _ _ _ _ hj, cutE, if_neg hc]
      simp [List.getD_eq_getElem?_getD, hj]
  · refine Ev_succ fun k => ?_
    simp only [impl_Cut.l0]
    have hm := mixed_all (cutL l keep l.length) (List.replicate l.length z45) (by simp [cutL_length])
    rw [cutL_length] at hm
    rw [if_neg (by omega), hm]

theorem cut_both (l : List S45) (keep : Int) (h : l.length ≤ 1048576) : ∃ R, Ev (fun k => spec_Cut.f k l keep) R ∧ Ev (fun k => impl_Cut.f k l keep) R ∧ R.length ≤ 1048576 := by
  obtain ⟨b, hs, hi⟩ := long_both (l.length : Int)
  simp only [spec_Cut.f, impl_Cut.f, hs, hi, Option.bind_some]
  cases b with
  | false =>
    refine ⟨[], ?_, ?_, by simp⟩
    · exact evNeg (by decide) (Ev.now _)
    · exact evNeg (by decide) (Ev.now _)
  | true =>
    refine ⟨cutL l keep l.length, ?_, ?_, by rw [cutL_length]; exact h⟩
    · exact evPos rfl (cut_spec l keep h)
    · exact evPos rfl (evPos (by omega) (evPos (by simp; omega) (by simpa using cut_impl l keep h)))

theorem FnExactCut : laws_FnExactCut.Pure := by
  intro l keep hl0 _
  refine Ev.rounds ?_
  simp only [laws_FnExactCut.f]
  by_cases hl : l.length ≤ 1048576
  rotate_left
  · exact Ev.bind (szPairS_big l hl0 hl) (evPos (by decide) (Ev.now _))
  have hc : (l.map convPair).length ≤ 1048576 := by rw [List.length_map]; exact hl
  obtain ⟨R, hs, hi, hR⟩ := cut_both (l.map convPair) keep hc
  refine Ev.bind (szPairS_ok _ hl) ?_
  refine evNeg (by first | omega | (simp; omega) | simp) ?_
  refine Ev.bind (toPairS_ev _ (by first | assumption | omega | (simp; omega))) ?_
  refine Ev.bind hs ?_
  refine Ev.bind (toPairS_ev _ (by first | assumption | omega | (simp; omega))) ?_
  refine Ev.bind hi ?_
  refine Ev.bind (eqPairS_ev _ (by first | assumption | omega | (simp; omega))) ?_
  refine evPos (by first | rfl | trivial | simp) ?_
  refine Ev.bind (toPairS_ev _ (by first | assumption | omega | (simp; omega))) ?_
  refine Ev.bind (eqPairS_ev _ (by first | assumption | omega | (simp; omega))) ?_
  refine evPos (by first | rfl | trivial | simp) ?_
  refine Ev.bind (markPairS_ev _ 1 (by first | omega | (simp; omega)) (by omega)) ?_
  refine evNeg (by first | omega | (simp; omega) | simp) ?_
  refine Ev.bind (eqPairS_ev _ (by first | assumption | omega | (simp; omega))) ?_
  refine Ev.step (fun k => laws_FnExactCut.j0.eq_2 _ _ _ _ _ k) ?_
  refine evNeg (by simp) ?_
  refine Ev.bind (markPairS_ev _ 1 (by first | omega | (simp; omega)) (by omega)) ?_
  refine Ev.bind (heldPairS_ev _ 1 (by omega) (by omega)) ?_
  refine evNeg (by first | omega | (simp; omega) | simp) ?_
  refine evPos (by first | rfl | trivial | simp) ?_
  refine Ev.bind (toPairS_ev _ (by first | assumption | omega | (simp; omega))) ?_
  refine Ev.bind hi ?_
  refine Ev.bind (eqPairS_ev _ (by first | assumption | omega | (simp; omega))) ?_
  refine evPos (by first | rfl | trivial | simp) ?_
  refine Ev.bind (heldPairS_ev _ 1 (by omega) (by omega)) ?_
  refine evNeg (by first | omega | (simp; omega) | simp) ?_
  refine evPos (by first | rfl | trivial | simp) ?_
  exact Ev.now _
end Go.Proofs.Ytmndffnjejgfoab.Pure
