/- What the helpers of the laws answer for lists of Pair: copies, comparisons, marks; for lists of at most 2^20 elements. -/
import Derived.Test.YtpileeenoocjpaaDoorFltL
import Derived.Test.YtpileeenoocjpaaDoorQx1
import Derived.Test.YtpileeenoocjpaaDoorQx2
import Derived.Test.YtpileeenoocjpaaDoorQx3
set_option linter.unusedVariables false
set_option linter.unusedSimpArgs false
namespace Go.Proofs.YtpileeenoocjpaaDoor.Gen
open Go.RowKit Go.Proofs.YtpileeenoocjpaaDoor.Q Go.Proofs.YtpileeenoocjpaaDoorW.PrintWords Go.Proofs.YtpileeenoocjpaaDoorW.PrintMore Go.Proofs.YtpileeenoocjpaaDoorW.PrintFlt

theorem sameFloat_ev (x : Nat) : Ev (fun k => laws_sameFloat.f k x x) true := by
  have hj : Ev (fun k => laws_sameFloat.j0 k x x (fne x x)) true := by
    refine Ev_succ fun k => ?_
    simp only [laws_sameFloat.j0]
    cases h : fne x x with
    | true => rw [if_pos rfl, if_pos rfl]
    | false =>
      rw [if_neg (by decide)]
      have h2 : feq x x = true := by rw [fne_eq] at h; simpa using h
      by_cases h3 : feq x 0 = true
      · rw [if_pos h3, if_pos h3, beq_self_eq_true]
      · rw [if_neg h3, h2]
  simp only [laws_sameFloat.f]
  by_cases h : fne x x = true
  · rw [h] at hj
    exact evPos h hj
  · exact evNeg h hj

theorem rdset42 (l : List S42) (e : S42) (j : Nat) (h : j < l.length) : rd_T42 (l.set j e) (j : Int) = e := by simp [rd_T42, List.getD_eq_getElem?_getD, h]
theorem rdn42 (l : List S42) (j : Nat) : rd_T42 l (j : Int) = l.getD j z42 := by simp [rd_T42]
def convPair (x : S66) : S42 := ⟨x.f0, x.f1⟩
theorem toPair_eq (x : S66) : laws_toPair.f x.f0 x.f1 = some (x.f0, x.f1) := by unfold laws_toPair.f; rfl
theorem toPairS_ev (l : List S66) (h : l.length ≤ 1048576) : Ev (fun k => laws_toPairS.f k l) (l.map convPair) := by
  simp only [laws_toPairS.f]
  refine evPos (by omega) (evPos (by simp; omega) ?_)
  have := count (fun k i (s : List S42) => laws_toPairS.l0 k l s i) l.length (fun j => mixed (l.map convPair) (List.replicate l.length z42) j) (l.map convPair) ?_ ?_ 0 (by omega)
  · simpa [mixed_zero] using this
  · intro j hj
    refine ⟨0, fun k _ => ?_⟩
    simp only [laws_toPairS.l0]
    rw [if_pos (by omega), if_pos (by omega), toPair_eq, Option.bind_some, if_pos (by rw [mixed_length _ _ _ (by simp)]; simp; omega), up1 (by omega), Int.toNat_natCast]
    have hm := mixed_set (l.map convPair) (List.replicate l.length z42) z42 j (by simp) (by simpa using hj)
    rw [← hm]
    congr 2
    simp [rd_T66, convPair, List.getD_eq_getElem?_getD, hj]
  · refine Ev_succ (fun k => ?_)
    simp only [laws_toPairS.l0]
    have hm := mixed_all (l.map convPair) (List.replicate l.length z42) (by simp)
    rw [List.length_map] at hm
    rw [if_neg (by omega), hm]

theorem eqPair_ev (x : S42) : Ev (fun k => laws_eqPair.f k x.f0 x.f1 x.f0 x.f1) true := by
  simp only [laws_eqPair.f]
  repeat' first | exact Ev.now _ | refine Ev.bind (sameFloat_ev _) (evPos rfl ?_) | refine evPos rfl ?_
theorem eqPairS_ev (l : List S42) (h : l.length ≤ 1099511627776) : Ev (fun k => laws_eqPairS.f k l l) true := by
  simp only [laws_eqPairS.f]
  refine evPos trivial ?_
  refine scanE (fun k i => laws_eqPairS.l0 k l l i) l.length (fun _ => true) ?_ ?_ 0 (by omega)
  · intro j hj ih
    refine Ev.step (fun k => laws_eqPairS.l0.eq_2 _ _ _ k) ?_
    refine evPos (by omega) (evPos (by omega) (evPos (by omega) (Ev.bind (eqPair_ev _) (evPos rfl ?_))))
    rw [up1 (by omega)]
    exact ih
  · refine Ev_succ (fun k => ?_)
    simp only [laws_eqPairS.l0]
    rw [if_neg (by omega)]

/-- Element i of the marked list. -/
def mkPair (a i : Nat) : S42 := ⟨foi ((a + 2 * i + 0 : Nat) : Int), foi ((a + 2 * i + 1 : Nat) : Int)⟩
def marksPair (a m : Nat) : List S42 := (List.range m).map (mkPair a)
theorem marksPair_length (a m : Nat) : (marksPair a m).length = m := by simp [marksPair]
theorem marksPair_get (a m i : Nat) (h : i < m) : (marksPair a m).getD i z42 = mkPair a i := by simp [marksPair, List.getD_eq_getElem?_getD, h]
theorem markPairS_ev (l : List S42) (a : Nat) (h : l.length ≤ 1099511627776) (ha : a ≤ 1152921504606846976) : Ev (fun k => laws_markPairS.f k l (a : Int)) (((a + 2 * l.length : Nat) : Int), marksPair a l.length) := by
  simp only [laws_markPairS.f]
  have := count (fun k i (s : List S42 × Int) => laws_markPairS.l0 k s.1 s.2 i) l.length (fun j => (mixed (marksPair a l.length) l j, ((a + 2 * j : Nat) : Int))) (((a + 2 * l.length : Nat) : Int), marksPair a l.length) ?_ ?_ 0 (by omega)
  · simpa [mixed_zero] using this
  · intro j hj
    refine ⟨0, fun k _ => ?_⟩
    have hL : (mixed (marksPair a l.length) l j).length = l.length := by rw [mixed_length _ _ _ (by rw [marksPair_length]), marksPair_length]
    have hm := mixed_set (marksPair a l.length) l z42 j (by rw [marksPair_length]) (by rw [marksPair_length]; exact hj)
    rw [marksPair_get _ _ _ hj] at hm
    have hj2 : j < (mixed (marksPair a l.length) l j).length := by omega
    have hj3 : ∀ e, j < ((mixed (marksPair a l.length) l j).set j e).length := by intro e; rw [List.length_set]; exact hj2
    simp only [laws_markPairS.l0]
    rw [if_pos (by omega), if_pos (by omega)]
    simp only [Option.bind_some, Int.toNat_natCast, List.set_set, rdset42 _ _ _ hj2, rdset42 _ _ _ (hj3 _)]
    rw [up1 (j := a + 2 * j) (by omega), up1 (j := a + 2 * j + 1) (by omega), up1 (j := j) (by omega)]
    show laws_markPairS.l0 k _ _ _ = laws_markPairS.l0 k _ _ _
    rw [← hm]
    congr 1
  · refine Ev_succ (fun k => ?_)
    simp only [laws_markPairS.l0]
    rw [if_neg (by rw [mixed_length _ _ _ (by rw [marksPair_length]), marksPair_length]; omega)]
    have := mixed_all (marksPair a l.length) l (by rw [marksPair_length])
    rw [marksPair_length] at this
    rw [this]

theorem heldPairS_ev (m a : Nat) (h : m ≤ 1099511627776) (ha : a ≤ 1152921504606846976) : Ev (fun k => laws_heldPairS.f k (marksPair a m) (a : Int)) ((a + 2 * m : Nat) : Int) := by
  simp only [laws_heldPairS.f]
  refine count (fun k i (s : Int) => laws_heldPairS.l0 k (marksPair a m) s i) m (fun j => ((a + 2 * j : Nat) : Int)) ((a + 2 * m : Nat) : Int) ?_ ?_ 0 (by omega)
  · intro j hj
    refine ⟨0, fun k _ => ?_⟩
    simp only [laws_heldPairS.l0]
    rw [if_pos (by rw [marksPair_length]; omega), if_pos (by omega)]
    rw [rdn42, marksPair_get _ _ _ hj]
    rw [if_neg (by rw [show (mkPair a j).f0 = foi ((a + 2 * j + 0 : Nat) : Int) from rfl, show (((a + 2 * j : Nat) : Int)) = ((a + 2 * j + 0 : Nat) : Int) from rfl, fne_self, isn_foi]; decide)]
    rw [up1 (j := a + 2 * j) (by omega)]
    rw [if_neg (by rw [show (mkPair a j).f1 = foi ((a + 2 * j + 1 : Nat) : Int) from rfl, fne_self, isn_foi]; decide)]
    rw [up1 (j := a + 2 * j + 1) (by omega)]
    rw [up1 (j := j) (by omega)]
    rfl
  · refine Ev_succ (fun k => ?_)
    simp only [laws_heldPairS.l0]
    rw [if_neg (by rw [marksPair_length]; omega)]

theorem szPairS_ok (l : List S66) (h : l.length ≤ 1048576) : Ev (fun _ : Nat => laws_szPairS.f l 1048576) (1048576 - (l.length : Int)) := by
  unfold laws_szPairS.f
  rw [w64 (x := 1048576 - (l.length : Int)) (by omega) (by omega), if_neg (by omega)]
  exact Ev.now _
theorem szPairS_big (l : List S66) (h0 : l.length ≤ 9223372036854775807) (h : ¬ l.length ≤ 1048576) : Ev (fun _ : Nat => laws_szPairS.f l 1048576) (-1) := by
  unfold laws_szPairS.f
  rw [w64 (x := 1048576 - (l.length : Int)) (by omega) (by omega), if_pos (by omega)]
  exact Ev.now _

end Go.Proofs.YtpileeenoocjpaaDoor.Gen
