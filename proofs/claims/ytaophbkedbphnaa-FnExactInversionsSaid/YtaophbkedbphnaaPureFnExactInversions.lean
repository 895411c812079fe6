/- The plain statement of the law FnExactInversions: program and reference find the same inversions in every list of levels, and hand back a list of their own; no condition. -/
import Derived.Test.YtaophbkedbphnaaAsc
import Derived.Test.YtaophbkedbphnaaQx16
import Derived.Test.YtaophbkedbphnaaQx25
import Derived.Test.YtaophbkedbphnaaQx5
set_option linter.unusedVariables false
set_option linter.unusedSimpArgs false
namespace Go.Proofs.Ytaophbkedbphnaa.Pure
open Go.RowKit Go.Proofs.Ytaophbkedbphnaa.Q Go.Proofs.Ytaophbkedbphnaa.Gen Go.Proofs.YtaophbkedbphnaaW.PrintWords Go.Proofs.YtaophbkedbphnaaW.PrintMore Go.Proofs.YtaophbkedbphnaaW.PrintFlt

def app (o : List S64) (f k : Nat) : List S64 := if f < k then o ++ [⟨(f : Int), (k : Int)⟩] else o
theorem app_length (o : List S64) (f k : Nat) : (app o f k).length ≤ o.length + 1 := by
  unfold app
  split
  · simp
  · omega
def invL (l : List S62) : Nat → List S64 → Nat → Nat → List S64
  | 0, o, f, k => app o f k
  | t + 1, o, f, k => if fgt (tmA l (k + 1)) (tmA l k) = true then invL l t o f (k + 1) else invL l t (app o f k) (k + 1) (k + 1)
theorem invL_length (l : List S62) : ∀ t o f k, (invL l t o f k).length ≤ o.length + t + 1 := by
  intro t
  induction t with
  | zero => intro o f k; exact app_length o f k
  | succ t ih =>
    intro o f k
    unfold invL
    have h1 := ih o f (k + 1)
    have h2 := ih (app o f k) (k + 1) (k + 1)
    have h3 := app_length o f k
    split <;> omega

theorem inv_impl (l : List S62) (hl : l.length ≤ 1048576) : ∀ t o f k', k' + 1 + t = l.length → f ≤ k' → o.length ≤ k' → Ev (fun k => impl_Inversions.l1 k l o (f : Int) (k' : Int)) (invL l t o f k') := by
  intro t
  induction t with
  | zero =>
    intro o f k' h hf ho
    refine Ev.step (fun k => impl_Inversions.l1.eq_2 _ _ _ _ k) ?_
    rw [up1 (by omega)]
    refine evNeg (by omega) ?_
    unfold invL app
    by_cases c : f < k'
    · rw [if_pos c]
      refine evPos (by omega) (evPos (by omega) ?_)
      exact Ev.step (fun k => impl_Inversions.l0.eq_2 _ _ _ k) (evNeg (by omega) (Ev.now _))
    · rw [if_neg c]
      refine evNeg (by omega) ?_
      exact Ev.step (fun k => impl_Inversions.l0.eq_2 _ _ _ k) (evNeg (by omega) (Ev.now _))
  | succ t ih =>
    intro o f k' h hf ho
    refine Ev.step (fun k => impl_Inversions.l1.eq_2 _ _ _ _ k) ?_
    rw [up1 (by omega)]
    simp only [rdn62]
    refine evPos (by omega) (evPos (by omega) (evPos (by omega) (evPos (by omega) ?_)))
    unfold invL
    by_cases c : fgt (tmA l (k' + 1)) (tmA l k') = true
    · rw [if_pos c]
      exact evPos c (ih o f (k' + 1) (by omega) (by omega) (by omega))
    · rw [if_neg c]
      refine evNeg c ?_
      have ha := app_length o f k'
      have IH := ih (app o f k') (k' + 1) (k' + 1) (by omega) (by omega) (by omega)
      have IH0 : Ev (fun k => impl_Inversions.l0 k l (app o f k') ((k' + 1 : Nat) : Int)) (invL l t (app o f k') (k' + 1) (k' + 1)) :=
        Ev.step (fun k => impl_Inversions.l0.eq_2 _ _ _ k) (evPos (by omega) IH)
      unfold app at IH0 ⊢
      by_cases c2 : f < k'
      · rw [if_pos c2] at IH0 ⊢
        exact evPos (by omega) (evPos (by omega) IH0)
      · rw [if_neg c2] at IH0 ⊢
        exact evNeg (by omega) IH0

theorem inv_spec (l : List S62) (hl : l.length ≤ 1048576) : ∀ t o f k', k' + 1 + t = l.length → f ≤ k' → o.length ≤ k' → Ev (fun k => spec_Inversions.l0 k l o (f : Int) ((k' + 1 : Nat) : Int)) (invL l t o f k') := by
  intro t
  induction t with
  | zero =>
    intro o f k' h hf ho
    have e : wrap64 (((k' + 1 : Nat) : Int) - 1) = (k' : Int) := by rw [w64 (by omega) (by omega)]; omega
    refine Ev.step (fun k => spec_Inversions.l0.eq_2 _ _ _ _ k) (evPos (by omega) (evNeg (by omega) ?_))
    refine Ev.step (fun k => spec_Inversions.j1.eq_2 _ _ _ _ _ k) (evNeg (by decide) ?_)
    rw [e, up1 (by omega)]
    unfold invL app
    by_cases c : f < k'
    · rw [if_pos c]
      refine evPos (by omega) (evPos (by omega) ?_)
      exact Ev.step (fun k => spec_Inversions.l0.eq_2 _ _ _ _ k) (evNeg (by omega) (Ev.now _))
    · rw [if_neg c]
      refine evNeg (by omega) ?_
      exact Ev.step (fun k => spec_Inversions.l0.eq_2 _ _ _ _ k) (evNeg (by omega) (Ev.now _))
  | succ t ih =>
    intro o f k' h hf ho
    have e : wrap64 (((k' + 1 : Nat) : Int) - 1) = (k' : Int) := by rw [w64 (by omega) (by omega)]; omega
    refine Ev.step (fun k => spec_Inversions.l0.eq_2 _ _ _ _ k) (evPos (by omega) (evPos (by omega) (evPos (by omega) ?_)))
    rw [e]
    simp only [rdn62]
    refine evPos (by omega) (evPos (by omega) ?_)
    refine Ev.step (fun k => spec_Inversions.j1.eq_2 _ _ _ _ _ k) ?_
    rw [e, up1 (by omega)]
    unfold invL
    by_cases c : fgt (tmA l (k' + 1)) (tmA l k') = true
    · rw [if_pos c]
      exact evPos c (ih o f (k' + 1) (by omega) (by omega) (by omega))
    · rw [if_neg c]
      refine evNeg c ?_
      have ha := app_length o f k'
      have IH := ih (app o f k') (k' + 1) (k' + 1) (by omega) (by omega) (by omega)
      unfold app at IH ⊢
      by_cases c2 : f < k'
      · rw [if_pos c2] at IH ⊢
        exact evPos (by omega) (evPos (by omega) IH)
      · rw [if_neg c2] at IH ⊢
        exact evNeg (by omega) IH

theorem inv_both (l : List S62) (hl : l.length ≤ 1048576) : ∃ R, Ev (fun k => spec_Inversions.f k l) R ∧ Ev (fun k => impl_Inversions.f k l) R ∧ R.length ≤ 1048576 := by
  simp only [spec_Inversions.f, impl_Inversions.f, Option.bind_some]
  have hs := ascent_spec l hl
  have hi := ascent_impl l hl
  cases h : ascOk l with
  | false =>
    rw [h] at hs hi
    exact ⟨[], Ev.bind hs (evNeg (by decide) (Ev.now _)), Ev.bind hi (evNeg (by decide) (Ev.now _)), by simp⟩
  | true =>
    rw [h] at hs hi
    have hn := ascOk_len h
    have hL := invL_length l (l.length - 1) [] 0 0
    refine ⟨invL l (l.length - 1) [] 0 0, Ev.bind hs (evPos rfl (inv_spec l hl _ [] 0 0 (by omega) (by omega) (by simp))), Ev.bind hi (evPos rfl ?_), by simp at hL; omega⟩
    exact Ev.step (fun k => impl_Inversions.l0.eq_2 _ _ _ k) (evPos (by omega) (inv_impl l hl _ [] 0 0 (by omega) (by omega) (by simp)))

theorem FnExactInversions : laws_FnExactInversions.Pure := by
  intro l hl0
  refine Ev.rounds ?_
  simp only [laws_FnExactInversions.f]
  by_cases hl : l.length ≤ 1048576
  rotate_left
  · exact Ev.bind (szLevelS_big l hl0 hl) (evPos (by decide) (Ev.now _))
  have hc : (l.map convLevel).length ≤ 1048576 := by rw [List.length_map]; exact hl
  obtain ⟨R, hs, hi, hR⟩ := inv_both (l.map convLevel) hc
  refine Ev.bind (szLevelS_ok _ hl) ?_
  refine evNeg (by first | omega | (simp; omega) | simp) ?_
  refine Ev.bind (toLevelS_ev _ (by first | assumption | omega | (simp; omega))) ?_
  refine Ev.bind hs ?_
  refine Ev.bind (toLevelS_ev _ (by first | assumption | omega | (simp; omega))) ?_
  refine Ev.bind hi ?_
  refine Ev.bind (eqSpanS_ev _ (by first | assumption | omega | (simp; omega))) ?_
  refine evPos (by first | rfl | trivial | simp) ?_
  refine Ev.bind (toLevelS_ev _ (by first | assumption | omega | (simp; omega))) ?_
  refine Ev.bind (eqLevelS_ev _ (by first | assumption | omega | (simp; omega))) ?_
  refine evPos (by first | rfl | trivial | simp) ?_
  refine Ev.bind (markLevelS_ev _ 1 (by first | omega | (simp; omega)) (by omega)) ?_
  refine evNeg (by first | omega | (simp; omega) | simp) ?_
  refine Ev.bind (eqSpanS_ev _ (by first | assumption | omega | (simp; omega))) ?_
  refine Ev.step (fun k => laws_FnExactInversions.j0.eq_2 _ _ _ _ k) ?_
  refine evNeg (by simp) ?_
  refine Ev.bind (markSpanS_ev _ 1 (by first | omega | (simp; omega)) (by omega)) ?_
  refine Ev.bind (heldSpanS_ev _ 1 (by omega) (by omega)) ?_
  refine evNeg (by first | omega | (simp; omega) | simp) ?_
  refine evPos (by first | rfl | trivial | simp) ?_
  refine Ev.bind (toLevelS_ev _ (by first | assumption | omega | (simp; omega))) ?_
  refine Ev.bind hi ?_
  refine Ev.bind (eqSpanS_ev _ (by first | assumption | omega | (simp; omega))) ?_
  refine evPos (by first | rfl | trivial | simp) ?_
  refine Ev.bind (heldSpanS_ev _ 1 (by omega) (by omega)) ?_
  refine evNeg (by first | omega | (simp; omega) | simp) ?_
  refine evPos (by first | rfl | trivial | simp) ?_
  exact Ev.now _
end Go.Proofs.Ytaophbkedbphnaa.Pure
