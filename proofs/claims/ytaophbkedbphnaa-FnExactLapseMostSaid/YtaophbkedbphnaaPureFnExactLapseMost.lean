/- The plain statement of the law FnExactLapseMost: program and reference find the same greatest lapse in every list of levels; no condition. -/
import Derived.Test.YtaophbkedbphnaaAsc
import Derived.Test.YtaophbkedbphnaaQx26
import Derived.Test.YtaophbkedbphnaaQx27
import Derived.Test.YtaophbkedbphnaaQx28
set_option linter.unusedVariables false
set_option linter.unusedSimpArgs false
namespace Go.Proofs.Ytaophbkedbphnaa.Pure
open Go.RowKit Go.Proofs.Ytaophbkedbphnaa.Q Go.Proofs.Ytaophbkedbphnaa.Gen Go.Proofs.YtaophbkedbphnaaW.PrintWords Go.Proofs.YtaophbkedbphnaaW.PrintMore Go.Proofs.YtaophbkedbphnaaW.PrintFlt

def lapQ (l : List S62) (i : Nat) : Nat := fdiv (fsub (tmA l i) (tmA l (i + 1))) (foi (wrap64 (prA l i - prA l (i + 1))))
def lap (l : List S62) : Nat → Nat → Int → Nat → Int × Nat
  | 0, _, at_, m => (at_, m)
  | t + 1, i, at_, m => if fgt (lapQ l i) m = true then lap l t (i + 1) (i : Int) (lapQ l i) else lap l t (i + 1) at_ m

theorem lap_spec (l : List S62) (hl : l.length ≤ 1048576) : ∀ t i at_ m, i + 1 + t = l.length → 1 ≤ i → Ev (fun k => spec_LapseMost.l0 k l at_ m (i : Int)) (lap l t i at_ m) := by
  intro t
  induction t with
  | zero =>
    intro i at_ m h h1
    refine Ev_succ fun k => ?_
    simp only [spec_LapseMost.l0]
    rw [up1 (by omega), if_neg (by omega)]
    rfl
  | succ t ih =>
    intro i at_ m h h1
    refine Ev.step (fun k => spec_LapseMost.l0.eq_2 _ _ _ _ k) ?_
    rw [up1 (by omega)]
    simp only [rdn62]
    refine evPos (by omega) (evPos (by omega) (evPos (by omega) (evPos (by omega) (evNeg (by omega) ?_))))
    unfold lap
    by_cases c : fgt (lapQ l i) m = true
    · rw [if_pos c]
      exact evPos c (ih (i + 1) _ _ (by omega) (by omega))
    · rw [if_neg c]
      exact evNeg c (ih (i + 1) _ _ (by omega) (by omega))

theorem lap_impl (l : List S62) (hl : l.length ≤ 1048576) : ∀ t i at_ m, i + 1 + t = l.length → 0 ≤ at_ → Ev (fun k => impl_LapseMost.l0 k l at_ m (i : Int)) (lap l t i at_ m) := by
  intro t
  induction t with
  | zero =>
    intro i at_ m h h1
    refine Ev_succ fun k => ?_
    simp only [impl_LapseMost.l0]
    rw [up1 (by omega), if_neg (by omega)]
    rfl
  | succ t ih =>
    intro i at_ m h h1
    refine Ev.step (fun k => impl_LapseMost.l0.eq_2 _ _ _ _ k) ?_
    rw [up1 (by omega)]
    simp only [rdn62]
    refine evPos (by omega) (evPos (by omega) (evPos (by omega) (evPos (by omega) (evNeg (by omega) ?_))))
    unfold lap
    by_cases c : fgt (lapQ l i) m = true
    · rw [if_pos c]
      exact evPos c (ih (i + 1) _ _ (by omega) (by omega))
    · rw [if_neg c]
      exact evNeg c (ih (i + 1) _ _ (by omega) (by omega))

theorem lapse_both (l : List S62) (hl : l.length ≤ 1048576) : ∃ R, Ev (fun k => spec_LapseMost.f k l) R ∧ Ev (fun k => impl_LapseMost.f k l) R := by
  simp only [spec_LapseMost.f, impl_LapseMost.f]
  have hs := ascent_spec l hl
  have hi := ascent_impl l hl
  cases h : ascOk l with
  | false =>
    rw [h] at hs hi
    exact ⟨_, Ev.bind hs (evNeg (by decide) (Ev.now _)), Ev.bind hi (evNeg (by decide) (Ev.now _))⟩
  | true =>
    rw [h] at hs hi
    have hn := ascOk_len h
    have e0 : wrap64 ((0 : Int) + 1) = ((1 : Nat) : Int) := by unfold wrap64; omega
    have z0 : ∀ x : List S62, rd_T62 x 0 = x.getD 0 z62 := fun x => rdn62 x 0
    refine ⟨lap l (l.length - 2) 1 0 (lapQ l 0), Ev.bind hs (evPos rfl ?_), Ev.bind hi (evPos rfl ?_)⟩
    · refine Ev.step (fun k => spec_LapseMost.l0.eq_2 _ _ _ _ k) ?_
      simp only [e0, z0, rdn62]
      exact evPos (by omega) (evPos (by omega) (evPos (by omega) (evPos (by omega) (evPos trivial (lap_spec l hl _ 1 0 _ (by omega) (by omega))))))
    · refine Ev.step (fun k => impl_LapseMost.l0.eq_2 _ _ _ _ k) ?_
      simp only [e0, z0, rdn62]
      exact evPos (by omega) (evPos (by omega) (evPos (by omega) (evPos (by omega) (evPos (by decide) (lap_impl l hl _ 1 0 _ (by omega) (by omega))))))

theorem FnExactLapseMost : laws_FnExactLapseMost.Pure := by
  intro l hl0
  refine Ev.rounds ?_
  simp only [laws_FnExactLapseMost.f]
  by_cases hl : l.length ≤ 1048576
  rotate_left
  · exact Ev.bind (szLevelS_big l hl0 hl) (evPos (by decide) (Ev.now _))
  have hc : (l.map convLevel).length ≤ 1048576 := by rw [List.length_map]; exact hl
  obtain ⟨⟨R, m⟩, hs, hi⟩ := lapse_both (l.map convLevel) hc
  refine Ev.bind (szLevelS_ok _ hl) ?_
  refine evNeg (by first | omega | (simp; omega) | simp) ?_
  refine Ev.bind (toLevelS_ev _ (by first | assumption | omega | (simp; omega))) ?_
  refine Ev.bind hs ?_
  refine Ev.bind (toLevelS_ev _ (by first | assumption | omega | (simp; omega))) ?_
  refine Ev.bind hi ?_
  refine evPos (by first | rfl | trivial | simp) ?_
  refine Ev.bind (sameFloat_ev _) ?_
  refine Ev.step (fun k => laws_FnExactLapseMost.j0.eq_2 _ _ _ k) ?_
  refine evNeg (by simp) ?_
  refine Ev.bind (toLevelS_ev _ (by first | assumption | omega | (simp; omega))) ?_
  refine Ev.bind (eqLevelS_ev _ (by first | assumption | omega | (simp; omega))) ?_
  refine evPos (by first | rfl | trivial | simp) ?_
  exact Ev.now _
end Go.Proofs.Ytaophbkedbphnaa.Pure
