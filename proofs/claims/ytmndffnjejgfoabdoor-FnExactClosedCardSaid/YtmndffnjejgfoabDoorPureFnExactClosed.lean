/- The plain statement of the law FnExactClosed: program and reference say of the same loops that they are closed; no condition. -/
import Derived.Test.YtmndffnjejgfoabDoorLoopL
import Derived.Test.YtmndffnjejgfoabDoorQx13
import Derived.Test.YtmndffnjejgfoabDoorQx14
import Derived.Test.YtmndffnjejgfoabDoorQx17
import Derived.Test.YtmndffnjejgfoabDoorQx7
set_option linter.unusedVariables false
set_option linter.unusedSimpArgs false
namespace Go.Proofs.YtmndffnjejgfoabDoor.Pure
open Go.RowKit Go.Proofs.YtmndffnjejgfoabDoor.Q Go.Proofs.YtmndffnjejgfoabDoor.Gen Go.Proofs.YtmndffnjejgfoabDoorW.PrintWords Go.Proofs.YtmndffnjejgfoabDoorW.PrintMore

theorem walk_l1 (l : List Int) (hl : l.length ≤ 2000) (hd : dirs l = true) : ∀ t i x y, i + t = l.length → Ev (fun k => impl_walk_impl_Closed_1.l1 k x y l (l.length : Int) (i : Int) TX TY) ((goal_ x y (l.drop i)).1, (goal_ x y (l.drop i)).2, true) := by
  intro t
  induction t with
  | zero =>
    intro i x y h
    refine Ev.step (fun k => impl_walk_impl_Closed_1.l1.eq_2 _ _ _ _ _ _ _ k) (evNeg (by omega) ?_)
    rw [List.drop_of_length_le (by omega)]
    exact Ev.now _
  | succ t ih =>
    intro i x y h
    obtain ⟨d0, d1⟩ := dirs_get hd i (by omega)
    refine Ev.step (fun k => impl_walk_impl_Closed_1.l1.eq_2 _ _ _ _ _ _ _ k) (evPos (by omega) (evPos (by omega) (evPos (by omega) ?_)))
    rw [rd_nat, up1 (by omega), drop_cons l i (by omega), goal_]
    exact Ev.bind (Ev.now ()) (evPos d0 (evPos (by omega) (ih (i + 1) _ _ (by omega))))
theorem walk_l0 (X Y : Int) (l : List Int) (hl : l.length ≤ 1048576) (r : Int × Int × Bool) (hr : Ev (fun k => impl_walk_impl_Closed_1.l1 k X Y l (l.length : Int) 0 TX TY) r) (hd : dirs l = true) :
    ∀ t i, i + t = l.length → Ev (fun k => impl_walk_impl_Closed_1.l0 k l (l.length : Int) (i : Int) TX TY X Y l) r := by
  intro t
  induction t with
  | zero =>
    intro i h
    exact Ev.step (fun k => impl_walk_impl_Closed_1.l0.eq_2 _ _ _ _ _ _ _ _ k) (evNeg (by omega) hr)
  | succ t ih =>
    intro i h
    refine Ev.step (fun k => impl_walk_impl_Closed_1.l0.eq_2 _ _ _ _ _ _ _ _ k) (evPos (by omega) (evPos (by omega) (evPos (by omega) ?_)))
    rw [in_s, rd_nat, up1 (by omega), (inS_iff _ _ _).2 (dirs_get hd i (by omega))]
    exact Ev.bind (Ev.now _) (evPos rfl (ih (i + 1) (by omega)))
theorem bad_l0 (X Y : Int) (l : List Int) (hl : l.length ≤ 1048576) :
    ∀ t i, i + t = l.length → dirs (l.drop i) = false → Ev (fun k => impl_walk_impl_Closed_1.l0 k l (l.length : Int) (i : Int) TX TY X Y l) (0, 0, false) := by
  intro t
  induction t with
  | zero =>
    intro i h hi
    rw [List.drop_of_length_le (by omega)] at hi
    cases hi
  | succ t ih =>
    intro i h hi
    refine Ev.step (fun k => impl_walk_impl_Closed_1.l0.eq_2 _ _ _ _ _ _ _ _ k) (evPos (by omega) (evPos (by omega) (evPos (by omega) ?_)))
    unfold dirs at hi
    rw [all_drop l _ 0 i (by omega)] at hi
    rw [in_s, rd_nat, up1 (by omega)]
    by_cases c : inS (l.getD i 0) 0 3 = true
    · rw [c]
      rw [c, Bool.true_and] at hi
      exact Ev.bind (Ev.now _) (evPos rfl (ih (i + 1) (by omega) hi))
    · rw [Bool.not_eq_true] at c
      rw [c]
      exact Ev.bind (Ev.now _) (evNeg (by decide) (Ev.now _))
theorem goal_last (x y : Int) (l : List Int) (h : l ≠ []) : ∃ e, (way x y l)[l.length - 1]? = some e ∧ goal_ x y l = (wrap64 (e.f0 + rd TX e.f2), wrap64 (e.f1 + rd TY e.f2)) ∧ e.f2 ∈ l := by
  induction l generalizing x y with
  | nil => exact absurd rfl h
  | cons d r ih =>
    cases r with
    | nil => exact ⟨⟨x, y, d⟩, rfl, rfl, by simp⟩
    | cons d2 r2 =>
      obtain ⟨e, h1, h2, h3⟩ := ih (wrap64 (x + rd TX d)) (wrap64 (y + rd TY d)) (by simp)
      refine ⟨e, ?_, ?_, by simp at h3 ⊢; exact .inr h3⟩
      · rw [way]
        simpa using h1
      · rw [goal_, h2]
def clos (X Y : Int) (l : List Int) : Bool := loopOk X Y l && ((goal_ X Y l).1 == X && (goal_ X Y l).2 == Y)
theorem closed_spec (X Y : Int) (l : List Int) (hl : l.length ≤ 1048576) : Ev (fun k => spec_Closed.f k X Y l) (clos X Y l) := by
  simp only [spec_Closed.f]
  refine Ev.bind (way_spec X Y l hl) ?_
  by_cases hk : loopOk X Y l = true
  rotate_left
  · have e : theWay X Y l = [] := by unfold theWay; rw [if_neg hk]
    rw [Bool.not_eq_true] at hk
    have : clos X Y l = loopOk X Y l := by unfold clos; rw [hk]; rfl
    rw [e, this]
    exact evPos rfl (Ev.bind (loopOk_spec X Y l hl) (Ev.now _))
  have e : theWay X Y l = way X Y l := by unfold theWay; rw [if_pos hk]
  rw [e]
  cases l with
  | nil =>
    have : clos X Y [] = loopOk X Y [] := by unfold clos goal_; simp
    rw [this]
    exact evPos rfl (Ev.bind (loopOk_spec X Y [] hl) (Ev.now _))
  | cons d r =>
    obtain ⟨e, h1, h2, h3⟩ := goal_last X Y (d :: r) (by simp)
    have hn : (way X Y (d :: r)).length = r.length + 1 := by rw [way_length]; rfl
    have hr : r.length + 1 ≤ 1048576 := hl
    have hw : wrap64 (((way X Y (d :: r)).length : Int) - 1) = (r.length : Int) := by rw [hn, w64 (by omega) (by omega)]; omega
    have hrd : rd_T40 (way X Y (d :: r)) (r.length : Int) = e := by
      have h1 : (way X Y (d :: r))[r.length]? = some e := h1
      simp [rd_T40, h1]
    have hd : dirs (d :: r) = true := by
      simp only [loopOk, Bool.and_eq_true] at hk
      exact hk.2.2.2
    have he := List.all_eq_true.1 hd _ h3
    rw [inS_iff] at he
    replace hw := Aside0.mk hw
    refine evNeg (by rw [hn]; omega) ?_
    rw [hw.out]
    refine evPos (by omega) (evPos (by rw [hn]; omega) ?_)
    rw [hrd, ahead12 _ _ _ he.1 he.2]
    have hc : clos X Y (d :: r) = ((goal_ X Y (d :: r)).1 == X && (goal_ X Y (d :: r)).2 == Y) := by unfold clos; rw [hk]; rfl
    rw [hc, h2]
    refine Ev.bind (Ev.now _) ?_
    dsimp only
    by_cases c : wrap64 (e.f0 + rd TX e.f2) = X
    · rw [show (wrap64 (e.f0 + rd TX e.f2) == X) = true from beq_iff_eq.2 c, Bool.true_and]
      exact evPos c (Ev.now _)
    · rw [show (wrap64 (e.f0 + rd TX e.f2) == X) = false from beq_eq_false_iff_ne.2 c, Bool.false_and]
      exact evNeg c (Ev.now _)
theorem walk_f (X Y : Int) (l : List Int) (hl : l.length ≤ 1048576) : Ev (fun k => impl_walk_impl_Closed_1.f k X Y l TX TY) (if loopOk X Y l = true then ((goal_ X Y l).1, (goal_ X Y l).2, true) else (0, 0, false)) := by
  have off : loopOk X Y l = false → Ev (fun k => impl_walk_impl_Closed_1.j0 k true TX TY X Y l) (if loopOk X Y l = true then ((goal_ X Y l).1, (goal_ X Y l).2, true) else (0, 0, false)) := fun h => by
    rw [h]
    exact Ev.step (fun k => impl_walk_impl_Closed_1.j0.eq_2 _ _ _ _ _ _ k) (evPos rfl (Ev.now _))
  simp only [impl_walk_impl_Closed_1.f, in_s]
  by_cases c : l.length ≤ 2000
  rotate_left
  · have h : loopOk X Y l = false := by unfold loopOk; rw [decide_eq_false c]; rfl
    exact evPos (by omega) (off h)
  by_cases c1 : inS X (-1000000) 1000000 = true
  rotate_left
  · rw [Bool.not_eq_true] at c1
    have h : loopOk X Y l = false := by unfold loopOk; rw [c1]; simp
    exact evNeg (by omega) (Ev.bind (Ev.now _) (evNeg (by rw [c1]; decide) (off h)))
  by_cases c2 : inS Y (-1000000) 1000000 = true
  rotate_left
  · rw [Bool.not_eq_true] at c2
    have h : loopOk X Y l = false := by unfold loopOk; rw [c2]; simp
    exact evNeg (by omega) (Ev.bind (Ev.now _) (evPos c1 (Ev.bind (Ev.now _) (by rw [c2]; exact off h))))
  have hk : loopOk X Y l = dirs l := by unfold loopOk; rw [c1, c2, decide_eq_true c]; simp
  refine evNeg (by omega) (Ev.bind (Ev.now _) (evPos c1 (Ev.bind (Ev.now _) ?_)))
  rw [c2, hk]
  refine Ev.step (fun k => impl_walk_impl_Closed_1.j0.eq_2 _ _ _ _ _ _ k) (evNeg (by decide) ?_)
  cases hd : dirs l with
  | true =>
    have := walk_l1 l c hd l.length 0 X Y (by omega)
    rw [List.drop_zero] at this
    exact walk_l0 X Y l hl _ this hd l.length 0 (by omega)
  | false => exact bad_l0 X Y l hl l.length 0 (by omega) hd
theorem closed_impl (X Y : Int) (l : List Int) (hl : l.length ≤ 1048576) : Ev (fun k => impl_Closed.f k X Y l TX TY) (clos X Y l) := by
  simp only [impl_Closed.f]
  refine Ev.bind (walk_f X Y l hl) ?_
  unfold clos
  cases loopOk X Y l with
  | false => exact evNeg (by simp) (Ev.now _)
  | true =>
    rw [if_pos rfl, Bool.true_and]
    refine evPos rfl ?_
    dsimp only
    by_cases c : (goal_ X Y l).1 = X
    · rw [show ((goal_ X Y l).1 == X) = true from beq_iff_eq.2 c, Bool.true_and]
      exact evPos c (Ev.now _)
    · rw [show ((goal_ X Y l).1 == X) = false from beq_eq_false_iff_ne.2 c, Bool.false_and]
      exact evNeg c (Ev.now _)

theorem FnExactClosed : laws_FnExactClosed.Pure := by
  intro X Y l hl0
  refine Ev.rounds ?_
  simp only [laws_FnExactClosed.f]
  by_cases hl : l.length ≤ 1048576
  rotate_left
  · exact Ev.bind (szLoop_big X Y l hl0 hl) (evPos (by decide) (Ev.now _))
  refine Ev.bind (szLoop_ok X Y l hl) (evNeg (by omega) ?_)
  refine Ev.bind (toLoop_ev X Y l hl) (Ev.bind (closed_spec X Y l hl) (Ev.bind (toLoop_ev X Y l hl) (Ev.bind (closed_impl X Y l hl) (evNeg (by simp) ?_))))
  exact Ev.bind (toLoop_ev X Y l hl) (Ev.bind (eqLoop_ev X Y l hl) (evPos rfl (Ev.now _)))
end Go.Proofs.YtmndffnjejgfoabDoor.Pure
