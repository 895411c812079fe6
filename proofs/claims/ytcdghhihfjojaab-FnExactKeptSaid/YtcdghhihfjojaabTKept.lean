/- What the helpers of the laws answer for lists of Judged, Read: copies, comparisons, marks; for lists of at most 2^20 elements. -/
import Derived.Test.YtcdghhihfjojaabFltL
import Derived.Test.YtcdghhihfjojaabQx1
import Derived.Test.YtcdghhihfjojaabQx10
import Derived.Test.YtcdghhihfjojaabQx11
import Derived.Test.YtcdghhihfjojaabQx12
import Derived.Test.YtcdghhihfjojaabQx13
import Derived.Test.YtcdghhihfjojaabQx3
import Derived.Test.YtcdghhihfjojaabQx4
import Derived.Test.YtcdghhihfjojaabQx6
import Derived.Test.YtcdghhihfjojaabQx7
import Derived.Test.YtcdghhihfjojaabQx8
import Derived.Test.YtcdghhihfjojaabQx9
set_option linter.unusedVariables false
set_option linter.unusedSimpArgs false
namespace Go.Proofs.Ytcdghhihfjojaab.Gen
open Go.RowKit Go.Proofs.Ytcdghhihfjojaab.Q Go.Proofs.YtcdghhihfjojaabW.PrintWords Go.Proofs.YtcdghhihfjojaabW.PrintMore Go.Proofs.YtcdghhihfjojaabW.PrintFlt

theorem sameFloat_ev (x : Nat) : Ev (fun k => laws_sameFloat.f k x x) true := by
  have hj : Ev (fun k => laws_sameFloat.j0 k x x (fne x x)) true := by
    refine Ev_succ fun k => ?_
    simp only [laws_sameFloat.j0]
    cases h : fne x x with
    | true => rw [if_pos rfl, if_pos rfl]
    | false =>
      rw [if_neg (by decide)]
      have h2 : feq x x = true := by rw [fne_eq] at h; simpa using h
      by_cases h3 : feq x 0 = true
      · rw [if_pos h3, if_pos h3, beq_self_eq_true]
      · rw [if_neg h3, h2]
  simp only [laws_sameFloat.f]
  by_cases h : fne x x = true
  · rw [h] at hj
    exact evPos h hj
  · exact evNeg h hj

theorem rdset69 (l : List S69) (e : S69) (j : Nat) (h : j < l.length) : rd_T69 (l.set j e) (j : Int) = e := by simp [rd_T69, List.getD_eq_getElem?_getD, h]
theorem rdn69 (l : List S69) (j : Nat) : rd_T69 l (j : Int) = l.getD j z69 := by simp [rd_T69]
def convJudged (x : S73) : S69 := ⟨x.f0, x.f1, x.f2, x.f3⟩
theorem toJudged_eq (x : S73) : laws_toJudged.f x.f0 x.f1 x.f2 x.f3 = some (x.f0, x.f1, x.f2, x.f3) := by unfold laws_toJudged.f; rfl
theorem toJudgedS_ev (l : List S73) (h : l.length ≤ 1048576) : Ev (fun k => laws_toJudgedS.f k l) (l.map convJudged) := by
  simp only [laws_toJudgedS.f]
  refine evPos (by omega) (evPos (by simp; omega) ?_)
  have := count (fun k i (s : List S69) => laws_toJudgedS.l0 k l s i) l.length (fun j => mixed (l.map convJudged) (List.replicate l.length z69) j) (l.map convJudged) ?_ ?_ 0 (by omega)
  · simpa [mixed_zero] using this
  · intro j hj
    refine ⟨0, fun k _ => ?_⟩
    simp only [laws_toJudgedS.l0]
    rw [if_pos (by omega), if_pos (by omega), toJudged_eq, Option.bind_some, if_pos (by rw [mixed_length _ _ _ (by simp)]; simp; omega), up1 (by omega), Int.toNat_natCast]
    have hm := mixed_set (l.map convJudged) (List.replicate l.length z69) z69 j (by simp) (by simpa using hj)
    rw [← hm]
    congr 2
    simp [rd_T73, convJudged, List.getD_eq_getElem?_getD, hj]
  · refine Ev_succ (fun k => ?_)
    simp only [laws_toJudgedS.l0]
    have hm := mixed_all (l.map convJudged) (List.replicate l.length z69) (by simp)
    rw [List.length_map] at hm
    rw [if_neg (by omega), hm]

theorem eqJudged_ev (x : S69) : Ev (fun k => laws_eqJudged.f k x.f0 x.f1 x.f2 x.f3 x.f0 x.f1 x.f2 x.f3) true := by
  simp only [laws_eqJudged.f]
  repeat' first | exact Ev.now _ | refine Ev.bind (sameFloat_ev _) (evPos rfl ?_) | refine evPos rfl ?_
theorem eqJudgedS_ev (l : List S69) (h : l.length ≤ 1099511627776) : Ev (fun k => laws_eqJudgedS.f k l l) true := by
  simp only [laws_eqJudgedS.f]
  refine evPos trivial ?_
  refine scanE (fun k i => laws_eqJudgedS.l0 k l l i) l.length (fun _ => true) ?_ ?_ 0 (by omega)
  · intro j hj ih
    refine Ev.step (fun k => laws_eqJudgedS.l0.eq_2 _ _ _ k) ?_
    refine evPos (by omega) (evPos (by omega) (evPos (by omega) (Ev.bind (eqJudged_ev _) (evPos rfl ?_))))
    rw [up1 (by omega)]
    exact ih
  · refine Ev_succ (fun k => ?_)
    simp only [laws_eqJudgedS.l0]
    rw [if_neg (by omega)]

/-- Element i of the marked list. -/
def mkJudged (a i : Nat) : S69 := ⟨((a + 4 * i + 0 : Nat) : Int), ((a + 4 * i + 1 : Nat) : Int), foi ((a + 4 * i + 2 : Nat) : Int), ((a + 4 * i + 3 : Nat) : Int)⟩
def marksJudged (a m : Nat) : List S69 := (List.range m).map (mkJudged a)
theorem marksJudged_length (a m : Nat) : (marksJudged a m).length = m := by simp [marksJudged]
theorem marksJudged_get (a m i : Nat) (h : i < m) : (marksJudged a m).getD i z69 = mkJudged a i := by simp [marksJudged, List.getD_eq_getElem?_getD, h]
theorem markJudgedS_ev (l : List S69) (a : Nat) (h : l.length ≤ 1099511627776) (ha : a ≤ 1152921504606846976) : Ev (fun k => laws_markJudgedS.f k l (a : Int)) (((a + 4 * l.length : Nat) : Int), marksJudged a l.length) := by
  simp only [laws_markJudgedS.f]
  have := count (fun k i (s : List S69 × Int) => laws_markJudgedS.l0 k s.1 s.2 i) l.length (fun j => (mixed (marksJudged a l.length) l j, ((a + 4 * j : Nat) : Int))) (((a + 4 * l.length : Nat) : Int), marksJudged a l.length) ?_ ?_ 0 (by omega)
  · simpa [mixed_zero] using this
  · intro j hj
    refine ⟨0, fun k _ => ?_⟩
    have hL : (mixed (marksJudged a l.length) l j).length = l.length := by rw [mixed_length _ _ _ (by rw [marksJudged_length]), marksJudged_length]
    have hm := mixed_set (marksJudged a l.length) l z69 j (by rw [marksJudged_length]) (by rw [marksJudged_length]; exact hj)
    rw [marksJudged_get _ _ _ hj] at hm
    have hj2 : j < (mixed (marksJudged a l.length) l j).length := by omega
    have hj3 : ∀ e, j < ((mixed (marksJudged a l.length) l j).set j e).length := by intro e; rw [List.length_set]; exact hj2
    simp only [laws_markJudgedS.l0]
    rw [if_pos (by omega), if_pos (by omega)]
    simp only [Option.bind_some, Int.toNat_natCast, List.set_set, rdset69 _ _ _ hj2, rdset69 _ _ _ (hj3 _)]
    rw [up1 (j := a + 4 * j) (by omega), up1 (j := a + 4 * j + 1) (by omega), up1 (j := a + 4 * j + 2) (by omega), up1 (j := a + 4 * j + 3) (by omega), up1 (j := j) (by omega)]
    show laws_markJudgedS.l0 k _ _ _ = laws_markJudgedS.l0 k _ _ _
    rw [← hm]
    congr 1
  · refine Ev_succ (fun k => ?_)
    simp only [laws_markJudgedS.l0]
    rw [if_neg (by rw [mixed_length _ _ _ (by rw [marksJudged_length]), marksJudged_length]; omega)]
    have := mixed_all (marksJudged a l.length) l (by rw [marksJudged_length])
    rw [marksJudged_length] at this
    rw [this]

theorem szJudgedS_ok (l : List S73) (h : l.length ≤ 1048576) : Ev (fun _ : Nat => laws_szJudgedS.f l 1048576) (1048576 - (l.length : Int)) := by
  unfold laws_szJudgedS.f
  rw [w64 (x := 1048576 - (l.length : Int)) (by omega) (by omega), if_neg (by omega)]
  exact Ev.now _
theorem szJudgedS_big (l : List S73) (h0 : l.length ≤ 9223372036854775807) (h : ¬ l.length ≤ 1048576) : Ev (fun _ : Nat => laws_szJudgedS.f l 1048576) (-1) := by
  unfold laws_szJudgedS.f
  rw [w64 (x := 1048576 - (l.length : Int)) (by omega) (by omega), if_pos (by omega)]
  exact Ev.now _

theorem rdset71 (l : List S71) (e : S71) (j : Nat) (h : j < l.length) : rd_T71 (l.set j e) (j : Int) = e := by simp [rd_T71, List.getD_eq_getElem?_getD, h]
theorem rdn71 (l : List S71) (j : Nat) : rd_T71 l (j : Int) = l.getD j z71 := by simp [rd_T71]
theorem eqRead_ev (x : S71) : Ev (fun k => laws_eqRead.f k x.f0 x.f1 x.f2 x.f0 x.f1 x.f2) true := by
  simp only [laws_eqRead.f]
  repeat' first | exact Ev.now _ | refine Ev.bind (sameFloat_ev _) (evPos rfl ?_) | refine evPos rfl ?_
theorem eqReadS_ev (l : List S71) (h : l.length ≤ 1099511627776) : Ev (fun k => laws_eqReadS.f k l l) true := by
  simp only [laws_eqReadS.f]
  refine evPos trivial ?_
  refine scanE (fun k i => laws_eqReadS.l0 k l l i) l.length (fun _ => true) ?_ ?_ 0 (by omega)
  · intro j hj ih
    refine Ev.step (fun k => laws_eqReadS.l0.eq_2 _ _ _ k) ?_
    refine evPos (by omega) (evPos (by omega) (evPos (by omega) (Ev.bind (eqRead_ev _) (evPos rfl ?_))))
    rw [up1 (by omega)]
    exact ih
  · refine Ev_succ (fun k => ?_)
    simp only [laws_eqReadS.l0]
    rw [if_neg (by omega)]

/-- Element i of the marked list. -/
def mkRead (a i : Nat) : S71 := ⟨((a + 3 * i + 0 : Nat) : Int), ((a + 3 * i + 1 : Nat) : Int), foi ((a + 3 * i + 2 : Nat) : Int)⟩
def marksRead (a m : Nat) : List S71 := (List.range m).map (mkRead a)
theorem marksRead_length (a m : Nat) : (marksRead a m).length = m := by simp [marksRead]
theorem marksRead_get (a m i : Nat) (h : i < m) : (marksRead a m).getD i z71 = mkRead a i := by simp [marksRead, List.getD_eq_getElem?_getD, h]
theorem markReadS_ev (l : List S71) (a : Nat) (h : l.length ≤ 1099511627776) (ha : a ≤ 1152921504606846976) : Ev (fun k => laws_markReadS.f k l (a : Int)) (((a + 3 * l.length : Nat) : Int), marksRead a l.length) := by
  simp only [laws_markReadS.f]
  have := count (fun k i (s : List S71 × Int) => laws_markReadS.l0 k s.1 s.2 i) l.length (fun j => (mixed (marksRead a l.length) l j, ((a + 3 * j : Nat) : Int))) (((a + 3 * l.length : Nat) : Int), marksRead a l.length) ?_ ?_ 0 (by omega)
  · simpa [mixed_zero] using this
  · intro j hj
    refine ⟨0, fun k _ => ?_⟩
    have hL : (mixed (marksRead a l.length) l j).length = l.length := by rw [mixed_length _ _ _ (by rw [marksRead_length]), marksRead_length]
    have hm := mixed_set (marksRead a l.length) l z71 j (by rw [marksRead_length]) (by rw [marksRead_length]; exact hj)
    rw [marksRead_get _ _ _ hj] at hm
    have hj2 : j < (mixed (marksRead a l.length) l j).length := by omega
    have hj3 : ∀ e, j < ((mixed (marksRead a l.length) l j).set j e).length := by intro e; rw [List.length_set]; exact hj2
    simp only [laws_markReadS.l0]
    rw [if_pos (by omega), if_pos (by omega)]
    simp only [Option.bind_some, Int.toNat_natCast, List.set_set, rdset71 _ _ _ hj2, rdset71 _ _ _ (hj3 _)]
    rw [up1 (j := a + 3 * j) (by omega), up1 (j := a + 3 * j + 1) (by omega), up1 (j := a + 3 * j + 2) (by omega), up1 (j := j) (by omega)]
    show laws_markReadS.l0 k _ _ _ = laws_markReadS.l0 k _ _ _
    rw [← hm]
    congr 1
  · refine Ev_succ (fun k => ?_)
    simp only [laws_markReadS.l0]
    rw [if_neg (by rw [mixed_length _ _ _ (by rw [marksRead_length]), marksRead_length]; omega)]
    have := mixed_all (marksRead a l.length) l (by rw [marksRead_length])
    rw [marksRead_length] at this
    rw [this]

theorem heldReadS_ev (m a : Nat) (h : m ≤ 1099511627776) (ha : a ≤ 1152921504606846976) : Ev (fun k => laws_heldReadS.f k (marksRead a m) (a : Int)) ((a + 3 * m : Nat) : Int) := by
  simp only [laws_heldReadS.f]
  refine count (fun k i (s : Int) => laws_heldReadS.l0 k (marksRead a m) s i) m (fun j => ((a + 3 * j : Nat) : Int)) ((a + 3 * m : Nat) : Int) ?_ ?_ 0 (by omega)
  · intro j hj
    refine ⟨0, fun k _ => ?_⟩
    simp only [laws_heldReadS.l0]
    rw [if_pos (by rw [marksRead_length]; omega), if_pos (by omega)]
    rw [rdn71, marksRead_get _ _ _ hj]
    rw [if_pos (show (mkRead a j).f0 = ((a + 3 * j : Nat) : Int) from rfl)]
    rw [up1 (j := a + 3 * j) (by omega)]
    rw [if_pos (show (mkRead a j).f1 = ((a + 3 * j + 1 : Nat) : Int) from rfl)]
    rw [up1 (j := a + 3 * j + 1) (by omega)]
    rw [if_neg (by rw [show (mkRead a j).f2 = foi ((a + 3 * j + 2 : Nat) : Int) from rfl, fne_self, isn_foi]; decide)]
    rw [up1 (j := a + 3 * j + 2) (by omega)]
    rw [up1 (j := j) (by omega)]
    rfl
  · refine Ev_succ (fun k => ?_)
    simp only [laws_heldReadS.l0]
    rw [if_neg (by rw [marksRead_length]; omega)]

end Go.Proofs.Ytcdghhihfjojaab.Gen
