/- The plain statement of the law FnExactWinds: program and reference count the same windings of every loop round every place; no condition. -/
import Derived.Test.YtmndffnjejgfoabDoorLoopL
import Derived.Test.YtmndffnjejgfoabDoorQx23
import Derived.Test.YtmndffnjejgfoabDoorQx24
import Derived.Test.YtmndffnjejgfoabDoorQx25
import Derived.Test.YtmndffnjejgfoabDoorQx26
import Derived.Test.YtmndffnjejgfoabDoorQx27
set_option linter.unusedVariables false
set_option linter.unusedSimpArgs false
namespace Go.Proofs.YtmndffnjejgfoabDoor.Pure
open Go.RowKit Go.Proofs.YtmndffnjejgfoabDoor.Q Go.Proofs.YtmndffnjejgfoabDoor.Gen Go.Proofs.YtmndffnjejgfoabDoorW.PrintWords Go.Proofs.YtmndffnjejgfoabDoorW.PrintMore

def stepW (pi pj : Int) (n : Int) (e : S40) : Int := if e.f0 ≤ pj then n else if e.f2 = 1 ∧ e.f1 = pi then wrap64 (n + 1) else if e.f2 = 3 ∧ wrap64 (e.f1 - 1) = pi then wrap64 (n - 1) else n
theorem each_ev (pi pj x y d n : Int) : Ev (fun k => impl_Winds_1.f k x y d [pj] [pi] n) (stepW pi pj n ⟨x, y, d⟩) := by
  have r1 : rd [pj] 0 = pj := rfl
  have r2 : rd [pi] 0 = pi := rfl
  simp only [impl_Winds_1.f, r1, r2]
  refine evPos (by simp) ?_
  unfold stepW
  dsimp only
  have j0 : ∀ b : Bool, (b = true → d = 1 ∧ y = pi) → (b = false → ¬ (d = 1 ∧ y = pi)) → Ev (fun k => impl_Winds_1.j0 k [pi] b n x y d) (if d = 1 ∧ y = pi then wrap64 (n + 1) else if d = 3 ∧ wrap64 (y - 1) = pi then wrap64 (n - 1) else n) := by
    intro b h1 h2
    refine Ev.step (fun k => impl_Winds_1.j0.eq_2 _ _ _ _ _ _ k) ?_
    cases b with
    | true => rw [if_pos (h1 rfl)]; exact evPos rfl (Ev.now _)
    | false =>
      rw [if_neg (h2 rfl), r2]
      refine evNeg (by decide) ?_
      by_cases c : d = 3
      · refine evPos c (evPos (by simp) ?_)
        by_cases c2 : wrap64 (y - 1) = pi
        · rw [show (if d = 3 ∧ wrap64 (y - 1) = pi then wrap64 (n - 1) else n) = wrap64 (n - 1) from if_pos ⟨c, c2⟩]; exact evPos c2 (Ev.now _)
        · rw [show (if d = 3 ∧ wrap64 (y - 1) = pi then wrap64 (n - 1) else n) = n from if_neg (fun h => c2 h.2)]; exact evNeg c2 (Ev.now _)
      · rw [show (if d = 3 ∧ wrap64 (y - 1) = pi then wrap64 (n - 1) else n) = n from if_neg (fun h => c h.1)]; exact evNeg c (Ev.now _)
  by_cases c : x ≤ pj
  · rw [if_pos c]; exact evPos c (Ev.now _)
  rw [if_neg c]
  refine evNeg c ?_
  by_cases c1 : d = 1
  · refine evPos c1 (evPos (by simp) (j0 (y == pi) (fun h => ⟨c1, by simpa using h⟩) (fun h h2 => by simp [h2.2] at h)))
  · exact evNeg c1 (j0 false (fun h => by cases h) (fun _ h => c1 h.1))
theorem walk_l1 (pi pj : Int) (l : List Int) (hl : l.length ≤ 2000) (hd : dirs l = true) : ∀ t i x y n, i + t = l.length → Ev (fun k => impl_walk_impl_Winds_1.l1 k x y l (l.length : Int) (i : Int) [pj] [pi] TX TY n) ((goal_ x y (l.drop i)).1, (goal_ x y (l.drop i)).2, true, (way x y (l.drop i)).foldl (stepW pi pj) n) := by
  intro t
  induction t with
  | zero =>
    intro i x y n h
    refine Ev.step (fun k => impl_walk_impl_Winds_1.l1.eq_2 _ _ _ _ _ _ _ _ _ _ k) (evNeg (by omega) ?_)
    rw [List.drop_of_length_le (by omega)]
    exact Ev.now _
  | succ t ih =>
    intro i x y n h
    obtain ⟨d0, d1⟩ := dirs_get hd i (by omega)
    refine Ev.step (fun k => impl_walk_impl_Winds_1.l1.eq_2 _ _ _ _ _ _ _ _ _ _ k) (evPos (by omega) (evPos (by omega) (evPos (by omega) ?_)))
    rw [rd_nat, up1 (by omega), drop_cons l i (by omega), way, goal_, List.foldl_cons]
    exact Ev.bind (each_ev pi pj _ _ _ _) (evPos d0 (evPos (by omega) (ih (i + 1) _ _ _ (by omega))))
theorem walk_l0 (pi pj X Y : Int) (l : List Int) (hl : l.length ≤ 1048576) (n : Int) (r : Int × Int × Bool × Int) (hr : Ev (fun k => impl_walk_impl_Winds_1.l1 k X Y l (l.length : Int) 0 [pj] [pi] TX TY n) r) (hd : dirs l = true) :
    ∀ t i, i + t = l.length → Ev (fun k => impl_walk_impl_Winds_1.l0 k l (l.length : Int) (i : Int) [pj] [pi] TX TY n X Y l) r := by
  intro t
  induction t with
  | zero =>
    intro i h
    exact Ev.step (fun k => impl_walk_impl_Winds_1.l0.eq_2 _ _ _ _ _ _ _ _ _ _ _ k) (evNeg (by omega) hr)
  | succ t ih =>
    intro i h
    refine Ev.step (fun k => impl_walk_impl_Winds_1.l0.eq_2 _ _ _ _ _ _ _ _ _ _ _ k) (evPos (by omega) (evPos (by omega) (evPos (by omega) ?_)))
    rw [in_s, rd_nat, up1 (by omega), (inS_iff _ _ _).2 (dirs_get hd i (by omega))]
    exact Ev.bind (Ev.now _) (evPos rfl (ih (i + 1) (by omega)))
theorem bad_l0 (pi pj X Y : Int) (l : List Int) (hl : l.length ≤ 1048576) (n : Int) :
    ∀ t i, i + t = l.length → dirs (l.drop i) = false → Ev (fun k => impl_walk_impl_Winds_1.l0 k l (l.length : Int) (i : Int) [pj] [pi] TX TY n X Y l) (0, 0, false, n) := by
  intro t
  induction t with
  | zero =>
    intro i h hi
    rw [List.drop_of_length_le (by omega)] at hi
    cases hi
  | succ t ih =>
    intro i h hi
    refine Ev.step (fun k => impl_walk_impl_Winds_1.l0.eq_2 _ _ _ _ _ _ _ _ _ _ _ k) (evPos (by omega) (evPos (by omega) (evPos (by omega) ?_)))
    unfold dirs at hi
    rw [all_drop l _ 0 i (by omega)] at hi
    rw [in_s, rd_nat, up1 (by omega)]
    by_cases c : inS (l.getD i 0) 0 3 = true
    · rw [c]
      rw [c, Bool.true_and] at hi
      exact Ev.bind (Ev.now _) (evPos rfl (ih (i + 1) (by omega) hi))
    · rw [Bool.not_eq_true] at c
      rw [c]
      exact Ev.bind (Ev.now _) (evNeg (by decide) (Ev.now _))
theorem walk_f (pi pj X Y : Int) (l : List Int) (hl : l.length ≤ 1048576) (n : Int) : ∃ a b, Ev (fun k => impl_walk_impl_Winds_1.f k X Y l [pj] [pi] n TX TY) (a, b, loopOk X Y l, (theWay X Y l).foldl (stepW pi pj) n) := by
  have no : loopOk X Y l = false → ∀ n, (theWay X Y l).foldl (stepW pi pj) n = n := fun h n => by unfold theWay; rw [if_neg (by rw [h]; decide)]; rfl
  have off : loopOk X Y l = false → Ev (fun k => impl_walk_impl_Winds_1.j0 k true [pj] [pi] TX TY n X Y l) (0, 0, loopOk X Y l, (theWay X Y l).foldl (stepW pi pj) n) := fun h => by
    rw [no h, h]
    exact Ev.step (fun k => impl_walk_impl_Winds_1.j0.eq_2 _ _ _ _ _ _ _ _ _ k) (evPos rfl (Ev.now _))
  simp only [impl_walk_impl_Winds_1.f, in_s]
  by_cases c : l.length ≤ 2000
  rotate_left
  · have h : loopOk X Y l = false := by unfold loopOk; rw [decide_eq_false c]; rfl
    exact ⟨0, 0, evPos (by omega) (off h)⟩
  by_cases c1 : inS X (-1000000) 1000000 = true
  rotate_left
  · rw [Bool.not_eq_true] at c1
    have h : loopOk X Y l = false := by unfold loopOk; rw [c1]; simp
    exact ⟨0, 0, evNeg (by omega) (Ev.bind (Ev.now _) (evNeg (by rw [c1]; decide) (off h)))⟩
  by_cases c2 : inS Y (-1000000) 1000000 = true
  rotate_left
  · rw [Bool.not_eq_true] at c2
    have h : loopOk X Y l = false := by unfold loopOk; rw [c2]; simp
    exact ⟨0, 0, evNeg (by omega) (Ev.bind (Ev.now _) (evPos c1 (Ev.bind (Ev.now _) (by rw [c2]; exact off h))))⟩
  have hk : loopOk X Y l = dirs l := by unfold loopOk; rw [c1, c2, decide_eq_true c]; simp
  cases hd : dirs l with
  | true =>
    have hw : theWay X Y l = way X Y l := by unfold theWay; rw [if_pos (by rw [hk, hd])]
    have := walk_l1 pi pj l c hd l.length 0 X Y n (by omega)
    rw [List.drop_zero] at this
    refine ⟨(goal_ X Y l).1, (goal_ X Y l).2, evNeg (by omega) (Ev.bind (Ev.now _) (evPos c1 (Ev.bind (Ev.now _) ?_)))⟩
    rw [c2, hk, hd, hw]
    exact Ev.step (fun k => impl_walk_impl_Winds_1.j0.eq_2 _ _ _ _ _ _ _ _ _ k) (evNeg (by decide) (walk_l0 pi pj X Y l hl n _ this hd l.length 0 (by omega)))
  | false =>
    refine ⟨0, 0, evNeg (by omega) (Ev.bind (Ev.now _) (evPos c1 (Ev.bind (Ev.now _) ?_)))⟩
    rw [c2, no (hk.trans hd), hk, hd]
    refine Ev.step (fun k => impl_walk_impl_Winds_1.j0.eq_2 _ _ _ _ _ _ _ _ _ k) (evNeg (by decide) ?_)
    exact bad_l0 pi pj X Y l hl n l.length 0 (by omega) hd

theorem winds_l0 (pi pj : Int) (w : List S40) (hl : w.length ≤ 1048576) : ∀ t i n, i + t = w.length → Ev (fun k => spec_Winds.l0 k pi pj n w (i : Int)) ((w.drop i).foldl (stepW pi pj) n) := by
  intro t
  induction t with
  | zero =>
    intro i n h
    refine Ev.step (fun k => spec_Winds.l0.eq_2 _ _ _ _ _ k) (evNeg (by omega) ?_)
    rw [List.drop_of_length_le (by omega)]
    exact Ev.now _
  | succ t ih =>
    intro i n h
    have e : w.drop i = rd_T40 w (i : Int) :: w.drop (i + 1) := by
      rw [List.drop_eq_getElem_cons (show i < w.length by omega)]
      simp [rd_T40, show i < w.length by omega]
    rw [e, List.foldl_cons]
    have nx : ∀ m, stepW pi pj n (rd_T40 w (i : Int)) = m → Ev (fun k => spec_Winds.l0 k pi pj m w (wrap64 ((i : Int) + 1))) ((w.drop (i + 1)).foldl (stepW pi pj) (stepW pi pj n (rd_T40 w (i : Int)))) := by
      intro m hm
      rw [hm, up1 (by omega)]
      exact ih (i + 1) _ (by omega)
    refine Ev.step (fun k => spec_Winds.l0.eq_2 _ _ _ _ _ k) (evPos (by omega) (evPos (by omega) ?_))
    have j1 : ∀ b : Bool, (b = true → (rd_T40 w (i : Int)).f2 = 1 ∧ ¬ (rd_T40 w (i : Int)).f0 ≤ pj ∧ (rd_T40 w (i : Int)).f1 = pi) → (b = false → ¬ ((rd_T40 w (i : Int)).f2 = 1 ∧ ¬ (rd_T40 w (i : Int)).f0 ≤ pj ∧ (rd_T40 w (i : Int)).f1 = pi)) → Ev (fun k => spec_Winds.j1 k pi pj n w (i : Int) b) ((w.drop (i + 1)).foldl (stepW pi pj) (stepW pi pj n (rd_T40 w (i : Int)))) := by
      intro b h1 h2
      refine Ev.step (fun k => spec_Winds.j1.eq_2 _ _ _ _ _ _ k) ?_
      generalize rd_T40 w (i : Int) = s at nx h1 h2
      cases b with
      | true =>
        obtain ⟨a1, a2, a3⟩ := h1 rfl
        exact evPos rfl (evPos (by omega) (evPos (by omega) (evNeg (by omega) (nx _ (by unfold stepW; rw [if_neg a2, if_pos ⟨a1, a3⟩])))))
      | false =>
        have h2 := h2 rfl
        refine evNeg (by decide) (evPos (by omega) (evPos (by omega) ?_))
        by_cases c3 : s.f2 = 3
        · refine evPos c3 ?_
          by_cases c0 : s.f0 > pj
          · refine evPos c0 ?_
            by_cases c4 : wrap64 (s.f1 - 1) = pi
            · exact evPos c4 (nx _ (by unfold stepW; rw [if_neg (by omega), if_neg (by omega), if_pos ⟨c3, c4⟩]))
            · exact evNeg c4 (nx _ (by unfold stepW; rw [if_neg (by omega), if_neg (by omega), if_neg (fun h => c4 h.2)]))
          · exact evNeg c0 (nx _ (by unfold stepW; rw [if_pos (by omega)]))
        · refine evNeg c3 (nx _ ?_)
          unfold stepW
          by_cases c0 : s.f0 ≤ pj
          · rw [if_pos c0]
          · rw [if_neg c0, if_neg (fun h => h2 ⟨h.1, c0, h.2⟩), if_neg (fun h => c3 h.1)]
    by_cases c1 : (rd_T40 w (i : Int)).f2 = 1
    · refine evPos c1 ?_
      by_cases c2 : (rd_T40 w (i : Int)).f0 > pj
      · exact evPos c2 (j1 _ (fun h => ⟨c1, by omega, by simpa using h⟩) (fun h h2 => by simp [h2.2.2] at h))
      · exact evNeg c2 (j1 false (fun h => by cases h) (fun _ h => by omega))
    · exact evNeg c1 (j1 false (fun h => by cases h) (fun _ h => c1 h.1))
theorem winds_both (pi pj X Y : Int) (l : List Int) (hl : l.length ≤ 1048576) : ∃ r, Ev (fun k => spec_Winds.f k X Y l pi pj) r ∧ Ev (fun k => impl_Winds.f k X Y l pi pj TX TY) r := by
  obtain ⟨a, b, h⟩ := walk_f pi pj X Y l hl 0
  refine ⟨(theWay X Y l).foldl (stepW pi pj) 0, ?_, ?_⟩
  · simp only [spec_Winds.f]
    have hw : (theWay X Y l).length ≤ 1048576 := by
      unfold theWay
      split
      · rw [way_length]; exact hl
      · simp
    have := winds_l0 pi pj (theWay X Y l) hw _ 0 0 (Nat.zero_add _)
    rw [List.drop_zero] at this
    exact Ev.bind (way_spec X Y l hl) this
  · simp only [impl_Winds.f]
    exact Ev.bind h (Ev.now _)

theorem FnExactWinds : laws_FnExactWinds.Pure := by
  intro X Y l pi pj hl0 _ _
  refine Ev.rounds ?_
  simp only [laws_FnExactWinds.f]
  by_cases hl : l.length ≤ 1048576
  rotate_left
  · exact Ev.bind (szLoop_big X Y l hl0 hl) (evPos (by decide) (Ev.now _))
  obtain ⟨r, hs, hi⟩ := winds_both pi pj X Y l hl
  refine Ev.bind (szLoop_ok X Y l hl) (evNeg (by omega) ?_)
  refine Ev.bind (toLoop_ev X Y l hl) (Ev.bind hs (Ev.bind (toLoop_ev X Y l hl) (Ev.bind hi (evPos rfl ?_))))
  exact Ev.bind (toLoop_ev X Y l hl) (Ev.bind (eqLoop_ev X Y l hl) (evPos rfl (Ev.now _)))
end Go.Proofs.YtmndffnjejgfoabDoor.Pure
