/- Loops: the way that a list of directions goes, and when a loop's form is right; no condition. -/
import Derived.Test.YtmndffnjejgfoabDoorI64
import Derived.Test.YtmndffnjejgfoabDoorInS
import Derived.Test.YtmndffnjejgfoabDoorQx1
import Derived.Test.YtmndffnjejgfoabDoorQx16
import Derived.Test.YtmndffnjejgfoabDoorQx2
import Derived.Test.YtmndffnjejgfoabDoorQx4
import Derived.Test.YtmndffnjejgfoabDoorQx5
import Derived.Test.YtmndffnjejgfoabDoorQx6
import Derived.Test.YtmndffnjejgfoabDoorQx9
set_option linter.unusedVariables false
set_option linter.unusedSimpArgs false
namespace Go.Proofs.YtmndffnjejgfoabDoor.Gen
open Go.RowKit Go.Proofs.YtmndffnjejgfoabDoor.Q Go.Proofs.YtmndffnjejgfoabDoor.Gen Go.Proofs.YtmndffnjejgfoabDoorW.PrintWords Go.Proofs.YtmndffnjejgfoabDoorW.PrintMore

abbrev TX : List Int := [1, 0, (-1), 0]
abbrev TY : List Int := [0, 1, 0, (-1)]
def way (x y : Int) : List Int → List S40
  | [] => []
  | d :: r => ⟨x, y, d⟩ :: way (wrap64 (x + rd TX d)) (wrap64 (y + rd TY d)) r
def goal_ (x y : Int) : List Int → Int × Int
  | [] => (x, y)
  | d :: r => goal_ (wrap64 (x + rd TX d)) (wrap64 (y + rd TY d)) r
def dirs (l : List Int) : Bool := l.all fun d => inS d 0 3
def loopOk (X Y : Int) (l : List Int) : Bool := decide (l.length ≤ 2000) && (inS X (-1000000) 1000000 && (inS Y (-1000000) 1000000 && dirs l))
theorem dirs_get {l : List Int} (h : dirs l = true) (i : Nat) (hi : i < l.length) : 0 ≤ l.getD i 0 ∧ l.getD i 0 ≤ 3 := by
  have := List.all_eq_true.1 h (l.getD i 0) (by rw [List.getD_eq_getElem?_getD, List.getElem?_eq_getElem hi]; exact List.getElem_mem hi)
  rwa [inS_iff] at this
theorem drop_cons (l : List Int) (i : Nat) (h : i < l.length) : l.drop i = l.getD i 0 :: l.drop (i + 1) := by
  rw [List.drop_eq_getElem_cons h, List.getD_eq_getElem?_getD, List.getElem?_eq_getElem h]; rfl
theorem way_length (x y : Int) (l : List Int) : (way x y l).length = l.length := by
  induction l generalizing x y with
  | nil => rfl
  | cons d r ih => simp [way, ih]

theorem loopOk_l0 (X Y : Int) (l : List Int) (hl : l.length ≤ 1048576) : ∀ t i, i + t = l.length → Ev (fun k => spec_l12LoopOk.l0 k (i : Int) X Y l) (dirs (l.drop i)) := by
  intro t
  induction t with
  | zero =>
    intro i h
    refine Ev.step (fun k => spec_l12LoopOk.l0.eq_2 _ _ _ _ k) (evNeg (by omega) ?_)
    rw [List.drop_of_length_le (by omega)]
    exact Ev.now _
  | succ t ih =>
    intro i h
    refine Ev.step (fun k => spec_l12LoopOk.l0.eq_2 _ _ _ _ k) (evPos (by omega) (evPos (by omega) ?_))
    unfold dirs
    rw [l2In_s, rd_nat, up1 (by omega), all_drop l _ 0 i (by omega)]
    by_cases c : inS (l.getD i 0) 0 3 = true
    · rw [c, Bool.true_and]; exact Ev.bind (Ev.now _) (evPos rfl (ih (i + 1) (by omega)))
    · rw [Bool.not_eq_true] at c; rw [c]; exact Ev.bind (Ev.now _) (evNeg (by decide) (Ev.now _))
theorem loopOk_spec (X Y : Int) (l : List Int) (hl : l.length ≤ 1048576) : Ev (fun k => spec_l12LoopOk.f k X Y l) (loopOk X Y l) := by
  have no : Ev (fun k => spec_l12LoopOk.j0 k true X Y l) false := Ev.step (fun k => spec_l12LoopOk.j0.eq_2 _ _ _ _ k) (evPos rfl (Ev.now _))
  simp only [spec_l12LoopOk.f, l2In_s]
  unfold loopOk
  by_cases c : l.length ≤ 2000
  rotate_left
  · rw [decide_eq_false c]; exact evPos (by omega) no
  rw [decide_eq_true c]
  refine evNeg (by omega) (Ev.bind (Ev.now _) ?_)
  by_cases c1 : inS X (-1000000) 1000000 = true
  rotate_left
  · rw [Bool.not_eq_true] at c1; rw [c1]; exact evNeg (by decide) no
  rw [c1]
  refine evPos rfl (Ev.bind (Ev.now _) ?_)
  by_cases c2 : inS Y (-1000000) 1000000 = true
  rotate_left
  · rw [Bool.not_eq_true] at c2; rw [c2]; exact no
  rw [c2]
  refine Ev.step (fun k => spec_l12LoopOk.j0.eq_2 _ _ _ _ k) (evNeg (by decide) ?_)
  have := loopOk_l0 X Y l hl l.length 0 (by omega)
  rw [List.drop_zero] at this
  simpa using this

theorem ahead12 (x y d : Int) (h0 : 0 ≤ d) (h1 : d ≤ 3) : spec_l12Ahead.f x y d = some (wrap64 (x + rd TX d), wrap64 (y + rd TY d)) := by
  unfold spec_l12Ahead.f
  rw [Option.bind_some, Option.bind_some, if_pos h0, if_pos (show d < ((TX.length : Nat) : Int) by show d < 4; omega), if_pos (show d < ((TY.length : Nat) : Int) by show d < 4; omega)]
theorem way_l0 (X Y : Int) (l : List Int) (hl : l.length ≤ 2000) (hd : dirs l = true) : ∀ t i x y acc, i + t = l.length → acc.length = i → Ev (fun k => spec_l12Way.l0 k acc x y (i : Int) X Y l) (acc ++ way x y (l.drop i)) := by
  intro t
  induction t with
  | zero =>
    intro i x y acc h ha
    refine Ev.step (fun k => spec_l12Way.l0.eq_2 _ _ _ _ _ _ _ k) (evNeg (by omega) ?_)
    rw [List.drop_of_length_le (by omega), way, List.append_nil]
    exact Ev.now _
  | succ t ih =>
    intro i x y acc h ha
    obtain ⟨d0, d1⟩ := dirs_get hd i (by omega)
    refine Ev.step (fun k => spec_l12Way.l0.eq_2 _ _ _ _ _ _ _ k) (evPos (by omega) (evPos (by omega) (evPos (by omega) ?_)))
    rw [rd_nat, ahead12 x y _ d0 d1, up1 (by omega), drop_cons l i (by omega), way]
    have := ih (i + 1) (wrap64 (x + rd TX (l.getD i 0))) (wrap64 (y + rd TY (l.getD i 0))) (acc ++ [⟨x, y, l.getD i 0⟩]) (by omega) (by simp [ha])
    rw [List.append_assoc] at this
    exact Ev.bind (Ev.now _) this
def theWay (X Y : Int) (l : List Int) : List S40 := if loopOk X Y l = true then way X Y l else []
theorem way_spec (X Y : Int) (l : List Int) (hl : l.length ≤ 1048576) : Ev (fun k => spec_l12Way.f k X Y l) (theWay X Y l) := by
  simp only [spec_l12Way.f]
  refine Ev.bind (Ev.now _) (Ev.bind (loopOk_spec X Y l hl) ?_)
  unfold theWay
  by_cases c : loopOk X Y l = true
  · rw [if_pos c]
    have c' := c
    simp only [loopOk, Bool.and_eq_true, decide_eq_true_eq] at c'
    have := way_l0 X Y l c'.1 c'.2.2.2 l.length 0 X Y [] (by omega) rfl
    rw [List.drop_zero, List.nil_append] at this
    exact evPos c this
  · rw [if_neg c]; exact evNeg c (Ev.now _)

theorem szLoop_ok (X Y : Int) (l : List Int) (h : l.length ≤ 1048576) : Ev (fun _ : Nat => laws_szLoop.f X Y l 1048576) (1048576 - (l.length : Int)) := by
  unfold laws_szLoop.f laws_szInt64S.f
  rw [w64 (by omega) (by omega), if_neg (by omega), Option.bind_some, if_neg (by omega)]
  exact Ev.now _
theorem szLoop_big (X Y : Int) (l : List Int) (h0 : l.length ≤ 9223372036854775807) (h : ¬ l.length ≤ 1048576) : Ev (fun _ : Nat => laws_szLoop.f X Y l 1048576) (-1) := by
  unfold laws_szLoop.f laws_szInt64S.f
  rw [w64 (by omega) (by omega), if_pos (by omega), Option.bind_some, if_pos (by decide)]
  exact Ev.now _
theorem toLoop_ev (X Y : Int) (l : List Int) (h : l.length ≤ 1048576) : Ev (fun k => laws_toLoop.f k X Y l) (X, Y, l) := by
  simp only [laws_toLoop.f]
  exact Ev.bind (toInt64S_ev l h) (Ev.now _)
theorem eqLoop_ev (X Y : Int) (l : List Int) (h : l.length ≤ 1048576) : Ev (fun k => laws_eqLoop.f k X Y l X Y l) true := by
  simp only [laws_eqLoop.f]
  exact evPos trivial (evPos trivial (Ev.bind (eqInt64S_ev l (by omega)) (evPos rfl (Ev.now _))))
end Go.Proofs.YtmndffnjejgfoabDoor.Gen
