/- What the helpers of the laws answer for lists of Pair, Float64: copies, comparisons, marks; for lists of at most 2^20 elements. -/
import Derived.Test.YtaophbkedbphnaaFltL
import Derived.Test.YtaophbkedbphnaaQx19
import Derived.Test.YtaophbkedbphnaaQx2
import Derived.Test.YtaophbkedbphnaaQx20
import Derived.Test.YtaophbkedbphnaaQx21
import Derived.Test.YtaophbkedbphnaaQx22
import Derived.Test.YtaophbkedbphnaaQx23
import Derived.Test.YtaophbkedbphnaaQx3
import Derived.Test.YtaophbkedbphnaaQx4
set_option linter.unusedVariables false
set_option linter.unusedSimpArgs false
namespace Go.Proofs.Ytaophbkedbphnaa.Gen
open Go.RowKit Go.Proofs.Ytaophbkedbphnaa.Q Go.Proofs.YtaophbkedbphnaaW.PrintWords Go.Proofs.YtaophbkedbphnaaW.PrintMore Go.Proofs.YtaophbkedbphnaaW.PrintFlt

theorem sameFloat_ev (x : Nat) : Ev (fun k => laws_sameFloat.f k x x) true := by
  have hj : Ev (fun k => laws_sameFloat.j0 k x x (fne x x)) true := by
    refine Ev_succ fun k => ?_
    simp only [laws_sameFloat.j0]
    cases h : fne x x with
    | true => rw [if_pos rfl, if_pos rfl]
    | false =>
      rw [if_neg (by decide)]
      have h2 : feq x x = true := by rw [fne_eq] at h; simpa using h
      by_cases h3 : feq x 0 = true
      · rw [if_pos h3, if_pos h3, beq_self_eq_true]
      · rw [if_neg h3, h2]
  simp only [laws_sameFloat.f]
  by_cases h : fne x x = true
  · rw [h] at hj
    exact evPos h hj
  · exact evNeg h hj

theorem rdset84 (l : List S84) (e : S84) (j : Nat) (h : j < l.length) : rd_T84 (l.set j e) (j : Int) = e := by simp [rd_T84, List.getD_eq_getElem?_getD, h]
theorem rdn84 (l : List S84) (j : Nat) : rd_T84 l (j : Int) = l.getD j z84 := by simp [rd_T84]
theorem eqPair_ev (x : S84) : Ev (fun k => laws_eqPair.f k x.f0 x.f1 x.f0 x.f1) true := by
  simp only [laws_eqPair.f]
  repeat' first | exact Ev.now _ | refine Ev.bind (sameFloat_ev _) (evPos rfl ?_) | refine evPos rfl ?_
theorem eqPairS_ev (l : List S84) (h : l.length ≤ 1099511627776) : Ev (fun k => laws_eqPairS.f k l l) true := by
  simp only [laws_eqPairS.f]
  refine evPos trivial ?_
  refine scanE (fun k i => laws_eqPairS.l0 k l l i) l.length (fun _ => true) ?_ ?_ 0 (by omega)
  · intro j hj ih
    refine Ev.step (fun k => laws_eqPairS.l0.eq_2 _ _ _ k) ?_
    refine evPos (by omega) (evPos (by omega) (evPos (by omega) (Ev.bind (eqPair_ev _) (evPos rfl ?_))))
    rw [up1 (by omega)]
    exact ih
  · refine Ev_succ (fun k => ?_)
    simp only [laws_eqPairS.l0]
    rw [if_neg (by omega)]

/-- Element i of the marked list. -/
def mkPair (a i : Nat) : S84 := ⟨foi ((a + 2 * i + 0 : Nat) : Int), foi ((a + 2 * i + 1 : Nat) : Int)⟩
def marksPair (a m : Nat) : List S84 := (List.range m).map (mkPair a)
theorem marksPair_length (a m : Nat) : (marksPair a m).length = m := by simp [marksPair]
theorem marksPair_get (a m i : Nat) (h : i < m) : (marksPair a m).getD i z84 = mkPair a i := by simp [marksPair, List.getD_eq_getElem?_getD, h]
theorem markPairS_ev (l : List S84) (a : Nat) (h : l.length ≤ 1099511627776) (ha : a ≤ 1152921504606846976) : Ev (fun k => laws_markPairS.f k l (a : Int)) (((a + 2 * l.length : Nat) : Int), marksPair a l.length) := by
  simp only [laws_markPairS.f]
  have := count (fun k i (s : List S84 × Int) => laws_markPairS.l0 k s.1 s.2 i) l.length (fun j => (mixed (marksPair a l.length) l j, ((a + 2 * j : Nat) : Int))) (((a + 2 * l.length : Nat) : Int), marksPair a l.length) ?_ ?_ 0 (by omega)
  · simpa [mixed_zero] using this
  · intro j hj
    refine ⟨0, fun k _ => ?_⟩
    have hL : (mixed (marksPair a l.length) l j).length = l.length := by rw [mixed_length _ _ _ (by rw [marksPair_length]), marksPair_length]
    have hm := mixed_set (marksPair a l.length) l z84 j (by rw [marksPair_length]) (by rw [marksPair_length]; exact hj)
    rw [marksPair_get _ _ _ hj] at hm
    have hj2 : j < (mixed (marksPair a l.length) l j).length := by omega
    have hj3 : ∀ e, j < ((mixed (marksPair a l.length) l j).set j e).length := by intro e; rw [List.length_set]; exact hj2
    simp only [laws_markPairS.l0]
    rw [if_pos (by omega), if_pos (by omega)]
    simp only [Option.bind_some, Int.toNat_natCast, List.set_set, rdset84 _ _ _ hj2, rdset84 _ _ _ (hj3 _)]
    rw [up1 (j := a + 2 * j) (by omega), up1 (j := a + 2 * j + 1) (by omega), up1 (j := j) (by omega)]
    show laws_markPairS.l0 k _ _ _ = laws_markPairS.l0 k _ _ _
    rw [← hm]
    congr 1
  · refine Ev_succ (fun k => ?_)
    simp only [laws_markPairS.l0]
    rw [if_neg (by rw [mixed_length _ _ _ (by rw [marksPair_length]), marksPair_length]; omega)]
    have := mixed_all (marksPair a l.length) l (by rw [marksPair_length])
    rw [marksPair_length] at this
    rw [this]

theorem heldPairS_ev (m a : Nat) (h : m ≤ 1099511627776) (ha : a ≤ 1152921504606846976) : Ev (fun k => laws_heldPairS.f k (marksPair a m) (a : Int)) ((a + 2 * m : Nat) : Int) := by
  simp only [laws_heldPairS.f]
  refine count (fun k i (s : Int) => laws_heldPairS.l0 k (marksPair a m) s i) m (fun j => ((a + 2 * j : Nat) : Int)) ((a + 2 * m : Nat) : Int) ?_ ?_ 0 (by omega)
  · intro j hj
    refine ⟨0, fun k _ => ?_⟩
    simp only [laws_heldPairS.l0]
    rw [if_pos (by rw [marksPair_length]; omega), if_pos (by omega)]
    rw [rdn84, marksPair_get _ _ _ hj]
    rw [if_neg (by rw [show (mkPair a j).f0 = foi ((a + 2 * j + 0 : Nat) : Int) from rfl, show (((a + 2 * j : Nat) : Int)) = ((a + 2 * j + 0 : Nat) : Int) from rfl, fne_self, isn_foi]; decide)]
    rw [up1 (j := a + 2 * j) (by omega)]
    rw [if_neg (by rw [show (mkPair a j).f1 = foi ((a + 2 * j + 1 : Nat) : Int) from rfl, fne_self, isn_foi]; decide)]
    rw [up1 (j := a + 2 * j + 1) (by omega)]
    rw [up1 (j := j) (by omega)]
    rfl
  · refine Ev_succ (fun k => ?_)
    simp only [laws_heldPairS.l0]
    rw [if_neg (by rw [marksPair_length]; omega)]

theorem toFloat64S_ev (l : List Nat) (h : l.length ≤ 1048576) : Ev (fun k => laws_toFloat64S.f k l) l := by
  simp only [laws_toFloat64S.f]
  refine evPos (by omega) (evPos (by simp; omega) ?_)
  have := count (fun k i (s : List Nat) => laws_toFloat64S.l0 k l s i) l.length (fun j => mixed l (List.replicate l.length 0) j) l ?_ ?_ 0 (by omega)
  · simpa [mixed_zero] using this
  · intro j hj
    refine ⟨0, fun k _ => ?_⟩
    simp only [laws_toFloat64S.l0]
    rw [if_pos (by omega), if_pos (by omega), if_pos (by rw [mixed_length _ _ _ (by simp)]; omega), up1 (by omega), Int.toNat_natCast]
    have hm := mixed_set l (List.replicate l.length 0) 0 j (by simp) hj
    rw [← hm]
    congr 2 <;> simp [rd_F]
  · refine Ev_succ (fun k => ?_)
    simp only [laws_toFloat64S.l0]
    rw [if_neg (by omega), mixed_all _ _ (by simp)]

def marksF64 (a m : Nat) : List Nat := (List.range m).map fun i => foi ((a + i : Nat) : Int)
theorem marksF64_length (a m : Nat) : (marksF64 a m).length = m := by simp [marksF64]
theorem marksF64_get (a m i : Nat) (h : i < m) : (marksF64 a m).getD i 0 = foi ((a + i : Nat) : Int) := by simp [marksF64, List.getD_eq_getElem?_getD, h]
theorem markFloat64S_ev (l : List Nat) (a : Nat) (h : l.length ≤ 1099511627776) (ha : a ≤ 1152921504606846976) : Ev (fun k => laws_markFloat64S.f k l (a : Int)) (((a + l.length : Nat) : Int), marksF64 a l.length) := by
  simp only [laws_markFloat64S.f]
  have := count (fun k i (s : List Nat × Int) => laws_markFloat64S.l0 k s.1 s.2 i) l.length (fun j => (mixed (marksF64 a l.length) l j, ((a + j : Nat) : Int))) (((a + l.length : Nat) : Int), marksF64 a l.length) ?_ ?_ 0 (by omega)
  · simpa [mixed_zero] using this
  · intro j hj
    refine ⟨0, fun k _ => ?_⟩
    have hL : (mixed (marksF64 a l.length) l j).length = l.length := by rw [mixed_length _ _ _ (by rw [marksF64_length]), marksF64_length]
    have hm := mixed_set (marksF64 a l.length) l 0 j (by rw [marksF64_length]) (by rw [marksF64_length]; exact hj)
    rw [marksF64_get _ _ _ hj] at hm
    simp only [laws_markFloat64S.l0]
    rw [if_pos (by omega), if_pos (by omega), Int.toNat_natCast, up1 (j := a + j) (by omega), up1 (j := j) (by omega)]
    show laws_markFloat64S.l0 k _ _ _ = laws_markFloat64S.l0 k _ _ _
    rw [← hm]
    congr 1
  · refine Ev_succ (fun k => ?_)
    simp only [laws_markFloat64S.l0]
    rw [if_neg (by rw [mixed_length _ _ _ (by rw [marksF64_length]), marksF64_length]; omega)]
    have := mixed_all (marksF64 a l.length) l (by rw [marksF64_length])
    rw [marksF64_length] at this
    rw [this]


theorem eqFloat64S_ev (l : List Nat) (h : l.length ≤ 1099511627776) : Ev (fun k => laws_eqFloat64S.f k l l) true := by
  simp only [laws_eqFloat64S.f]
  refine evPos trivial ?_
  refine scanE (fun k i => laws_eqFloat64S.l0 k l l i) l.length (fun _ => true) ?_ ?_ 0 (by omega)
  · intro j hj ih
    refine Ev.step (fun k => laws_eqFloat64S.l0.eq_2 _ _ _ k) ?_
    refine evPos (by omega) (evPos (by omega) (evPos (by omega) (Ev.bind (sameFloat_ev _) (evPos rfl ?_))))
    rw [up1 (by omega)]
    exact ih
  · refine Ev_succ (fun k => ?_)
    simp only [laws_eqFloat64S.l0]
    rw [if_neg (by omega)]

end Go.Proofs.Ytaophbkedbphnaa.Gen
