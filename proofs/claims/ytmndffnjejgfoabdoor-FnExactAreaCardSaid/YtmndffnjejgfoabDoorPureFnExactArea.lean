/- The plain statement of the law FnExactArea: program and reference find the same area within every loop; no condition. -/
import Derived.Test.YtmndffnjejgfoabDoorLoopL
import Derived.Test.YtmndffnjejgfoabDoorQx18
import Derived.Test.YtmndffnjejgfoabDoorQx19
import Derived.Test.YtmndffnjejgfoabDoorQx20
import Derived.Test.YtmndffnjejgfoabDoorQx21
import Derived.Test.YtmndffnjejgfoabDoorQx22
set_option linter.unusedVariables false
set_option linter.unusedSimpArgs false
namespace Go.Proofs.YtmndffnjejgfoabDoor.Pure
open Go.RowKit Go.Proofs.YtmndffnjejgfoabDoor.Q Go.Proofs.YtmndffnjejgfoabDoor.Gen Go.Proofs.YtmndffnjejgfoabDoorW.PrintWords Go.Proofs.YtmndffnjejgfoabDoorW.PrintMore

def stepA (n : Int) (e : S40) : Int := if e.f2 = 1 then wrap64 (n + e.f0) else if e.f2 = 3 then wrap64 (n - e.f0) else n
theorem walk_l1 (l : List Int) (hl : l.length ≤ 2000) (hd : dirs l = true) : ∀ t i x y n, i + t = l.length → Ev (fun k => impl_walk_impl_Area_1.l1 k x y l (l.length : Int) (i : Int) TX TY n) ((goal_ x y (l.drop i)).1, (goal_ x y (l.drop i)).2, true, (way x y (l.drop i)).foldl stepA n) := by
  intro t
  induction t with
  | zero =>
    intro i x y n h
    refine Ev.step (fun k => impl_walk_impl_Area_1.l1.eq_2 _ _ _ _ _ _ _ _ k) (evNeg (by omega) ?_)
    rw [List.drop_of_length_le (by omega)]
    exact Ev.now _
  | succ t ih =>
    intro i x y n h
    obtain ⟨d0, d1⟩ := dirs_get hd i (by omega)
    refine Ev.step (fun k => impl_walk_impl_Area_1.l1.eq_2 _ _ _ _ _ _ _ _ k) (evPos (by omega) (evPos (by omega) (evPos (by omega) ?_)))
    rw [rd_nat, up1 (by omega), drop_cons l i (by omega), way, goal_, List.foldl_cons]
    have e : impl_Area_1.f x y (l.getD i 0) n = some (stepA n ⟨x, y, l.getD i 0⟩) := by
      unfold impl_Area_1.f stepA
      dsimp only
      split
      · rfl
      · split <;> rfl
    rw [e]
    exact Ev.bind (Ev.now _) (evPos d0 (evPos (by omega) (ih (i + 1) _ _ _ (by omega))))
theorem walk_l0 (X Y : Int) (l : List Int) (hl : l.length ≤ 1048576) (n : Int) (r : Int × Int × Bool × Int) (hr : Ev (fun k => impl_walk_impl_Area_1.l1 k X Y l (l.length : Int) 0 TX TY n) r) (hd : dirs l = true) :
    ∀ t i, i + t = l.length → Ev (fun k => impl_walk_impl_Area_1.l0 k l (l.length : Int) (i : Int) TX TY n X Y l) r := by
  intro t
  induction t with
  | zero =>
    intro i h
    exact Ev.step (fun k => impl_walk_impl_Area_1.l0.eq_2 _ _ _ _ _ _ _ _ _ k) (evNeg (by omega) hr)
  | succ t ih =>
    intro i h
    refine Ev.step (fun k => impl_walk_impl_Area_1.l0.eq_2 _ _ _ _ _ _ _ _ _ k) (evPos (by omega) (evPos (by omega) (evPos (by omega) ?_)))
    rw [in_s, rd_nat, up1 (by omega), (inS_iff _ _ _).2 (dirs_get hd i (by omega))]
    exact Ev.bind (Ev.now _) (evPos rfl (ih (i + 1) (by omega)))
theorem bad_l0 (X Y : Int) (l : List Int) (hl : l.length ≤ 1048576) (n : Int) :
    ∀ t i, i + t = l.length → dirs (l.drop i) = false → Ev (fun k => impl_walk_impl_Area_1.l0 k l (l.length : Int) (i : Int) TX TY n X Y l) (0, 0, false, n) := by
  intro t
  induction t with
  | zero =>
    intro i h hi
    rw [List.drop_of_length_le (by omega)] at hi
    cases hi
  | succ t ih =>
    intro i h hi
    refine Ev.step (fun k => impl_walk_impl_Area_1.l0.eq_2 _ _ _ _ _ _ _ _ _ k) (evPos (by omega) (evPos (by omega) (evPos (by omega) ?_)))
    unfold dirs at hi
    rw [all_drop l _ 0 i (by omega)] at hi
    rw [in_s, rd_nat, up1 (by omega)]
    by_cases c : inS (l.getD i 0) 0 3 = true
    · rw [c]
      rw [c, Bool.true_and] at hi
      exact Ev.bind (Ev.now _) (evPos rfl (ih (i + 1) (by omega) hi))
    · rw [Bool.not_eq_true] at c
      rw [c]
      exact Ev.bind (Ev.now _) (evNeg (by decide) (Ev.now _))
theorem walk_f (X Y : Int) (l : List Int) (hl : l.length ≤ 1048576) (n : Int) : ∃ a b, Ev (fun k => impl_walk_impl_Area_1.f k X Y l n TX TY) (a, b, loopOk X Y l, (theWay X Y l).foldl stepA n) := by
  have no : loopOk X Y l = false → ∀ n, (theWay X Y l).foldl stepA n = n := fun h n => by unfold theWay; rw [if_neg (by rw [h]; decide)]; rfl
  have off : loopOk X Y l = false → Ev (fun k => impl_walk_impl_Area_1.j0 k true TX TY n X Y l) (0, 0, loopOk X Y l, (theWay X Y l).foldl stepA n) := fun h => by
    rw [no h, h]
    exact Ev.step (fun k => impl_walk_impl_Area_1.j0.eq_2 _ _ _ _ _ _ _ k) (evPos rfl (Ev.now _))
  simp only [impl_walk_impl_Area_1.f, in_s]
  by_cases c : l.length ≤ 2000
  rotate_left
  · have h : loopOk X Y l = false := by unfold loopOk; rw [decide_eq_false c]; rfl
    exact ⟨0, 0, evPos (by omega) (off h)⟩
  by_cases c1 : inS X (-1000000) 1000000 = true
  rotate_left
  · rw [Bool.not_eq_true] at c1
    have h : loopOk X Y l = false := by unfold loopOk; rw [c1]; simp
    exact ⟨0, 0, evNeg (by omega) (Ev.bind (Ev.now _) (evNeg (by rw [c1]; decide) (off h)))⟩
  by_cases c2 : inS Y (-1000000) 1000000 = true
  rotate_left
  · rw [Bool.not_eq_true] at c2
    have h : loopOk X Y l = false := by unfold loopOk; rw [c2]; simp
    exact ⟨0, 0, evNeg (by omega) (Ev.bind (Ev.now _) (evPos c1 (Ev.bind (Ev.now _) (by rw [c2]; exact off h))))⟩
  have hk : loopOk X Y l = dirs l := by unfold loopOk; rw [c1, c2, decide_eq_true c]; simp
  cases hd : dirs l with
  | true =>
    have hw : theWay X Y l = way X Y l := by unfold theWay; rw [if_pos (by rw [hk, hd])]
    have := walk_l1 l c hd l.length 0 X Y n (by omega)
    rw [List.drop_zero] at this
    refine ⟨(goal_ X Y l).1, (goal_ X Y l).2, evNeg (by omega) (Ev.bind (Ev.now _) (evPos c1 (Ev.bind (Ev.now _) ?_)))⟩
    rw [c2, hk, hd, hw]
    exact Ev.step (fun k => impl_walk_impl_Area_1.j0.eq_2 _ _ _ _ _ _ _ k) (evNeg (by decide) (walk_l0 X Y l hl n _ this hd l.length 0 (by omega)))
  | false =>
    refine ⟨0, 0, evNeg (by omega) (Ev.bind (Ev.now _) (evPos c1 (Ev.bind (Ev.now _) ?_)))⟩
    rw [c2, no (hk.trans hd), hk, hd]
    refine Ev.step (fun k => impl_walk_impl_Area_1.j0.eq_2 _ _ _ _ _ _ _ k) (evNeg (by decide) ?_)
    exact bad_l0 X Y l hl n l.length 0 (by omega) hd

theorem area_l0 (w : List S40) (hl : w.length ≤ 1048576) : ∀ t i n, i + t = w.length → Ev (fun k => spec_Area.l0 k n w (i : Int)) ((w.drop i).foldl stepA n) := by
  intro t
  induction t with
  | zero =>
    intro i n h
    refine Ev.step (fun k => spec_Area.l0.eq_2 _ _ _ k) (evNeg (by omega) ?_)
    rw [List.drop_of_length_le (by omega)]
    exact Ev.now _
  | succ t ih =>
    intro i n h
    refine Ev.step (fun k => spec_Area.l0.eq_2 _ _ _ k) (evPos (by omega) (evPos (by omega) ?_))
    have e : w.drop i = rd_T40 w (i : Int) :: w.drop (i + 1) := by
      rw [List.drop_eq_getElem_cons (show i < w.length by omega)]
      simp [rd_T40, show i < w.length by omega]
    rw [e, up1 (by omega), List.foldl_cons]
    generalize rd_T40 w (i : Int) = s
    by_cases c : s.f2 = 1
    · have hs : stepA n s = wrap64 (n + s.f0) := by unfold stepA; rw [if_pos c]
      rw [hs]
      exact evPos c (evNeg (by omega) (ih (i + 1) _ (by omega)))
    · by_cases c3 : s.f2 = 3
      · have hs : stepA n s = wrap64 (n - s.f0) := by unfold stepA; rw [if_neg c, if_pos c3]
        rw [hs]
        exact evNeg c (evPos c3 (ih (i + 1) _ (by omega)))
      · have hs : stepA n s = n := by unfold stepA; rw [if_neg c, if_neg c3]
        rw [hs]
        exact evNeg c (evNeg c3 (ih (i + 1) _ (by omega)))
theorem area_both (X Y : Int) (l : List Int) (hl : l.length ≤ 1048576) : ∃ r, Ev (fun k => spec_Area.f k X Y l) r ∧ Ev (fun k => impl_Area.f k X Y l TX TY) r := by
  obtain ⟨a, b, h⟩ := walk_f X Y l hl 0
  refine ⟨(theWay X Y l).foldl stepA 0, ?_, ?_⟩
  · simp only [spec_Area.f]
    have hw : (theWay X Y l).length ≤ 1048576 := by
      unfold theWay
      split
      · rw [way_length]; exact hl
      · simp
    have := area_l0 (theWay X Y l) hw _ 0 0 (Nat.zero_add _)
    rw [List.drop_zero] at this
    exact Ev.bind (way_spec X Y l hl) this
  · simp only [impl_Area.f]
    exact Ev.bind h (Ev.now _)

theorem FnExactArea : laws_FnExactArea.Pure := by
  intro X Y l hl0
  refine Ev.rounds ?_
  simp only [laws_FnExactArea.f]
  by_cases hl : l.length ≤ 1048576
  rotate_left
  · exact Ev.bind (szLoop_big X Y l hl0 hl) (evPos (by decide) (Ev.now _))
  obtain ⟨r, hs, hi⟩ := area_both X Y l hl
  refine Ev.bind (szLoop_ok X Y l hl) (evNeg (by omega) ?_)
  refine Ev.bind (toLoop_ev X Y l hl) (Ev.bind hs (Ev.bind (toLoop_ev X Y l hl) (Ev.bind hi (evPos rfl ?_))))
  exact Ev.bind (toLoop_ev X Y l hl) (Ev.bind (eqLoop_ev X Y l hl) (evPos rfl (Ev.now _)))
end Go.Proofs.YtmndffnjejgfoabDoor.Pure
