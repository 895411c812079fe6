/- What the helpers of the laws answer for lists of Level, Span: copies, comparisons, marks; for lists of at most 2^20 elements. -/
import Derived.Test.YtaophbkedbphnaaFltL
import Derived.Test.YtaophbkedbphnaaQx1
import Derived.Test.YtaophbkedbphnaaQx17
import Derived.Test.YtaophbkedbphnaaQx18
import Derived.Test.YtaophbkedbphnaaQx19
import Derived.Test.YtaophbkedbphnaaQx20
import Derived.Test.YtaophbkedbphnaaQx21
import Derived.Test.YtaophbkedbphnaaQx22
import Derived.Test.YtaophbkedbphnaaQx23
import Derived.Test.YtaophbkedbphnaaQx24
import Derived.Test.YtaophbkedbphnaaQx6
import Derived.Test.YtaophbkedbphnaaQx7
set_option linter.unusedVariables false
set_option linter.unusedSimpArgs false
namespace Go.Proofs.Ytaophbkedbphnaa.Gen
open Go.RowKit Go.Proofs.Ytaophbkedbphnaa.Q Go.Proofs.YtaophbkedbphnaaW.PrintWords Go.Proofs.YtaophbkedbphnaaW.PrintMore Go.Proofs.YtaophbkedbphnaaW.PrintFlt

theorem sameFloat_ev (x : Nat) : Ev (fun k => laws_sameFloat.f k x x) true := by
  have hj : Ev (fun k => laws_sameFloat.j0 k x x (fne x x)) true := by
    refine Ev_succ fun k => ?_
    simp only [laws_sameFloat.j0]
    cases h : fne x x with
    | true => rw [if_pos rfl, if_pos rfl]
    | false =>
      rw [if_neg (by decide)]
      have h2 : feq x x = true := by rw [fne_eq] at h; simpa using h
      by_cases h3 : feq x 0 = true
      · rw [if_pos h3, if_pos h3, beq_self_eq_true]
      · rw [if_neg h3, h2]
  simp only [laws_sameFloat.f]
  by_cases h : fne x x = true
  · rw [h] at hj
    exact evPos h hj
  · exact evNeg h hj

theorem rdset62 (l : List S62) (e : S62) (j : Nat) (h : j < l.length) : rd_T62 (l.set j e) (j : Int) = e := by simp [rd_T62, List.getD_eq_getElem?_getD, h]
theorem rdn62 (l : List S62) (j : Nat) : rd_T62 l (j : Int) = l.getD j z62 := by simp [rd_T62]
def convLevel (x : S66) : S62 := ⟨x.f0, x.f1⟩
theorem toLevel_eq (x : S66) : laws_toLevel.f x.f0 x.f1 = some (x.f0, x.f1) := by unfold laws_toLevel.f; rfl
theorem toLevelS_ev (l : List S66) (h : l.length ≤ 1048576) : Ev (fun k => laws_toLevelS.f k l) (l.map convLevel) := by
  simp only [laws_toLevelS.f]
  refine evPos (by omega) (evPos (by simp; omega) ?_)
  have := count (fun k i (s : List S62) => laws_toLevelS.l0 k l s i) l.length (fun j => mixed (l.map convLevel) (List.replicate l.length z62) j) (l.map convLevel) ?_ ?_ 0 (by omega)
  · simpa [mixed_zero] using this
  · intro j hj
    refine ⟨0, fun k _ => ?_⟩
    simp only [laws_toLevelS.l0]
    rw [if_pos (by omega), if_pos (by omega), toLevel_eq, Option.bind_some, if_pos (by rw [mixed_length _ _ _ (by simp)]; simp; omega), up1 (by omega), Int.toNat_natCast]
    have hm := mixed_set (l.map convLevel) (List.replicate l.length z62) z62 j (by simp) (by simpa using hj)
    rw [← hm]
    congr 2
    simp [rd_T66, convLevel, List.getD_eq_getElem?_getD, hj]
  · refine Ev_succ (fun k => ?_)
    simp only [laws_toLevelS.l0]
    have hm := mixed_all (l.map convLevel) (List.replicate l.length z62) (by simp)
    rw [List.length_map] at hm
    rw [if_neg (by omega), hm]

theorem eqLevel_ev (x : S62) : Ev (fun k => laws_eqLevel.f k x.f0 x.f1 x.f0 x.f1) true := by
  simp only [laws_eqLevel.f]
  repeat' first | exact Ev.now _ | refine Ev.bind (sameFloat_ev _) (evPos rfl ?_) | refine evPos rfl ?_
theorem eqLevelS_ev (l : List S62) (h : l.length ≤ 1099511627776) : Ev (fun k => laws_eqLevelS.f k l l) true := by
  simp only [laws_eqLevelS.f]
  refine evPos trivial ?_
  refine scanE (fun k i => laws_eqLevelS.l0 k l l i) l.length (fun _ => true) ?_ ?_ 0 (by omega)
  · intro j hj ih
    refine Ev.step (fun k => laws_eqLevelS.l0.eq_2 _ _ _ k) ?_
    refine evPos (by omega) (evPos (by omega) (evPos (by omega) (Ev.bind (eqLevel_ev _) (evPos rfl ?_))))
    rw [up1 (by omega)]
    exact ih
  · refine Ev_succ (fun k => ?_)
    simp only [laws_eqLevelS.l0]
    rw [if_neg (by omega)]

/-- Element i of the marked list. -/
def mkLevel (a i : Nat) : S62 := ⟨((a + 2 * i + 0 : Nat) : Int), foi ((a + 2 * i + 1 : Nat) : Int)⟩
def marksLevel (a m : Nat) : List S62 := (List.range m).map (mkLevel a)
theorem marksLevel_length (a m : Nat) : (marksLevel a m).length = m := by simp [marksLevel]
theorem marksLevel_get (a m i : Nat) (h : i < m) : (marksLevel a m).getD i z62 = mkLevel a i := by simp [marksLevel, List.getD_eq_getElem?_getD, h]
theorem markLevelS_ev (l : List S62) (a : Nat) (h : l.length ≤ 1099511627776) (ha : a ≤ 1152921504606846976) : Ev (fun k => laws_markLevelS.f k l (a : Int)) (((a + 2 * l.length : Nat) : Int), marksLevel a l.length) := by
  simp only [laws_markLevelS.f]
  have := count (fun k i (s : List S62 × Int) => laws_markLevelS.l0 k s.1 s.2 i) l.length (fun j => (mixed (marksLevel a l.length) l j, ((a + 2 * j : Nat) : Int))) (((a + 2 * l.length : Nat) : Int), marksLevel a l.length) ?_ ?_ 0 (by omega)
  · simpa [mixed_zero] using this
  · intro j hj
    refine ⟨0, fun k _ => ?_⟩
    have hL : (mixed (marksLevel a l.length) l j).length = l.length := by rw [mixed_length _ _ _ (by rw [marksLevel_length]), marksLevel_length]
    have hm := mixed_set (marksLevel a l.length) l z62 j (by rw [marksLevel_length]) (by rw [marksLevel_length]; exact hj)
    rw [marksLevel_get _ _ _ hj] at hm
    have hj2 : j < (mixed (marksLevel a l.length) l j).length := by omega
    have hj3 : ∀ e, j < ((mixed (marksLevel a l.length) l j).set j e).length := by intro e; rw [List.length_set]; exact hj2
    simp only [laws_markLevelS.l0]
    rw [if_pos (by omega), if_pos (by omega)]
    simp only [Option.bind_some, Int.toNat_natCast, List.set_set, rdset62 _ _ _ hj2, rdset62 _ _ _ (hj3 _)]
    rw [up1 (j := a + 2 * j) (by omega), up1 (j := a + 2 * j + 1) (by omega), up1 (j := j) (by omega)]
    show laws_markLevelS.l0 k _ _ _ = laws_markLevelS.l0 k _ _ _
    rw [← hm]
    congr 1
  · refine Ev_succ (fun k => ?_)
    simp only [laws_markLevelS.l0]
    rw [if_neg (by rw [mixed_length _ _ _ (by rw [marksLevel_length]), marksLevel_length]; omega)]
    have := mixed_all (marksLevel a l.length) l (by rw [marksLevel_length])
    rw [marksLevel_length] at this
    rw [this]

theorem szLevelS_ok (l : List S66) (h : l.length ≤ 1048576) : Ev (fun _ : Nat => laws_szLevelS.f l 1048576) (1048576 - (l.length : Int)) := by
  unfold laws_szLevelS.f
  rw [w64 (x := 1048576 - (l.length : Int)) (by omega) (by omega), if_neg (by omega)]
  exact Ev.now _
theorem szLevelS_big (l : List S66) (h0 : l.length ≤ 9223372036854775807) (h : ¬ l.length ≤ 1048576) : Ev (fun _ : Nat => laws_szLevelS.f l 1048576) (-1) := by
  unfold laws_szLevelS.f
  rw [w64 (x := 1048576 - (l.length : Int)) (by omega) (by omega), if_pos (by omega)]
  exact Ev.now _

theorem rdset64 (l : List S64) (e : S64) (j : Nat) (h : j < l.length) : rd_T64 (l.set j e) (j : Int) = e := by simp [rd_T64, List.getD_eq_getElem?_getD, h]
theorem rdn64 (l : List S64) (j : Nat) : rd_T64 l (j : Int) = l.getD j z64 := by simp [rd_T64]
theorem eqSpan_ev (x : S64) : Ev (fun k => laws_eqSpan.f x.f0 x.f1 x.f0 x.f1) true := by
  have : laws_eqSpan.f x.f0 x.f1 x.f0 x.f1 = some true := by unfold laws_eqSpan.f; simp
  simp only [this]
  exact Ev.now _
theorem eqSpanS_ev (l : List S64) (h : l.length ≤ 1099511627776) : Ev (fun k => laws_eqSpanS.f k l l) true := by
  simp only [laws_eqSpanS.f]
  refine evPos trivial ?_
  refine scanE (fun k i => laws_eqSpanS.l0 k l l i) l.length (fun _ => true) ?_ ?_ 0 (by omega)
  · intro j hj ih
    refine Ev.step (fun k => laws_eqSpanS.l0.eq_2 _ _ _ k) ?_
    refine evPos (by omega) (evPos (by omega) (evPos (by omega) (Ev.bind (eqSpan_ev _) (evPos rfl ?_))))
    rw [up1 (by omega)]
    exact ih
  · refine Ev_succ (fun k => ?_)
    simp only [laws_eqSpanS.l0]
    rw [if_neg (by omega)]

/-- Element i of the marked list. -/
def mkSpan (a i : Nat) : S64 := ⟨((a + 2 * i + 0 : Nat) : Int), ((a + 2 * i + 1 : Nat) : Int)⟩
def marksSpan (a m : Nat) : List S64 := (List.range m).map (mkSpan a)
theorem marksSpan_length (a m : Nat) : (marksSpan a m).length = m := by simp [marksSpan]
theorem marksSpan_get (a m i : Nat) (h : i < m) : (marksSpan a m).getD i z64 = mkSpan a i := by simp [marksSpan, List.getD_eq_getElem?_getD, h]
theorem markSpanS_ev (l : List S64) (a : Nat) (h : l.length ≤ 1099511627776) (ha : a ≤ 1152921504606846976) : Ev (fun k => laws_markSpanS.f k l (a : Int)) (((a + 2 * l.length : Nat) : Int), marksSpan a l.length) := by
  simp only [laws_markSpanS.f]
  have := count (fun k i (s : List S64 × Int) => laws_markSpanS.l0 k s.1 s.2 i) l.length (fun j => (mixed (marksSpan a l.length) l j, ((a + 2 * j : Nat) : Int))) (((a + 2 * l.length : Nat) : Int), marksSpan a l.length) ?_ ?_ 0 (by omega)
  · simpa [mixed_zero] using this
  · intro j hj
    refine ⟨0, fun k _ => ?_⟩
    have hL : (mixed (marksSpan a l.length) l j).length = l.length := by rw [mixed_length _ _ _ (by rw [marksSpan_length]), marksSpan_length]
    have hm := mixed_set (marksSpan a l.length) l z64 j (by rw [marksSpan_length]) (by rw [marksSpan_length]; exact hj)
    rw [marksSpan_get _ _ _ hj] at hm
    have hj2 : j < (mixed (marksSpan a l.length) l j).length := by omega
    have hj3 : ∀ e, j < ((mixed (marksSpan a l.length) l j).set j e).length := by intro e; rw [List.length_set]; exact hj2
    simp only [laws_markSpanS.l0]
    rw [if_pos (by omega), if_pos (by omega)]
    simp only [Option.bind_some, Int.toNat_natCast, List.set_set, rdset64 _ _ _ hj2, rdset64 _ _ _ (hj3 _)]
    rw [up1 (j := a + 2 * j) (by omega), up1 (j := a + 2 * j + 1) (by omega), up1 (j := j) (by omega)]
    show laws_markSpanS.l0 k _ _ _ = laws_markSpanS.l0 k _ _ _
    rw [← hm]
    congr 1
  · refine Ev_succ (fun k => ?_)
    simp only [laws_markSpanS.l0]
    rw [if_neg (by rw [mixed_length _ _ _ (by rw [marksSpan_length]), marksSpan_length]; omega)]
    have := mixed_all (marksSpan a l.length) l (by rw [marksSpan_length])
    rw [marksSpan_length] at this
    rw [this]

theorem heldSpanS_ev (m a : Nat) (h : m ≤ 1099511627776) (ha : a ≤ 1152921504606846976) : Ev (fun k => laws_heldSpanS.f k (marksSpan a m) (a : Int)) ((a + 2 * m : Nat) : Int) := by
  simp only [laws_heldSpanS.f]
  refine count (fun k i (s : Int) => laws_heldSpanS.l0 k (marksSpan a m) s i) m (fun j => ((a + 2 * j : Nat) : Int)) ((a + 2 * m : Nat) : Int) ?_ ?_ 0 (by omega)
  · intro j hj
    refine ⟨0, fun k _ => ?_⟩
    simp only [laws_heldSpanS.l0]
    rw [if_pos (by rw [marksSpan_length]; omega), if_pos (by omega)]
    rw [rdn64, marksSpan_get _ _ _ hj]
    rw [if_pos (show (mkSpan a j).f0 = ((a + 2 * j : Nat) : Int) from rfl)]
    rw [up1 (j := a + 2 * j) (by omega)]
    rw [if_pos (show (mkSpan a j).f1 = ((a + 2 * j + 1 : Nat) : Int) from rfl)]
    rw [up1 (j := a + 2 * j + 1) (by omega)]
    rw [up1 (j := j) (by omega)]
    rfl
  · refine Ev_succ (fun k => ?_)
    simp only [laws_heldSpanS.l0]
    rw [if_neg (by rw [marksSpan_length]; omega)]

end Go.Proofs.Ytaophbkedbphnaa.Gen
