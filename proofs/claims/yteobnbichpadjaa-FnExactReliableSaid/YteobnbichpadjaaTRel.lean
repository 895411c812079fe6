/- What the helpers of the laws answer for lists of Prob, Bin: copies, comparisons, marks; for lists of at most 2^20 elements. -/
import Derived.Test.YteobnbichpadjaaFltL
import Derived.Test.YteobnbichpadjaaQx19
import Derived.Test.YteobnbichpadjaaQx20
import Derived.Test.YteobnbichpadjaaQx21
import Derived.Test.YteobnbichpadjaaQx22
import Derived.Test.YteobnbichpadjaaQx23
import Derived.Test.YteobnbichpadjaaQx24
import Derived.Test.YteobnbichpadjaaQx25
import Derived.Test.YteobnbichpadjaaQx26
import Derived.Test.YteobnbichpadjaaQx27
import Derived.Test.YteobnbichpadjaaQx28
set_option linter.unusedVariables false
set_option linter.unusedSimpArgs false
namespace Go.Proofs.Yteobnbichpadjaa.Gen
open Go.RowKit Go.Proofs.Yteobnbichpadjaa.Q Go.Proofs.YteobnbichpadjaaW.PrintWords Go.Proofs.YteobnbichpadjaaW.PrintMore Go.Proofs.YteobnbichpadjaaW.PrintFlt

theorem rdset34 (l : List S34) (e : S34) (j : Nat) (h : j < l.length) : rd_T34 (l.set j e) (j : Int) = e := by simp [rd_T34, List.getD_eq_getElem?_getD, h]
theorem rdn34 (l : List S34) (j : Nat) : rd_T34 l (j : Int) = l.getD j z34 := by simp [rd_T34]
def convProb (x : S72) : S34 := ⟨x.f0, x.f1⟩
theorem toProb_eq (x : S72) : laws_toProb.f x.f0 x.f1 = some (x.f0, x.f1) := by unfold laws_toProb.f; rfl
theorem toProbS_ev (l : List S72) (h : l.length ≤ 1048576) : Ev (fun k => laws_toProbS.f k l) (l.map convProb) := by
  simp only [laws_toProbS.f]
  refine evPos (by omega) (evPos (by simp; omega) ?_)
  have := count (fun k i (s : List S34) => laws_toProbS.l0 k l s i) l.length (fun j => mixed (l.map convProb) (List.replicate l.length z34) j) (l.map convProb) ?_ ?_ 0 (by omega)
  · simpa [mixed_zero] using this
  · intro j hj
    refine ⟨0, fun k _ => ?_⟩
    simp only [laws_toProbS.l0]
    rw [if_pos (by omega), if_pos (by omega), toProb_eq, Option.bind_some, if_pos (by rw [mixed_length _ _ _ (by simp)]; simp; omega), up1 (by omega), Int.toNat_natCast]
    have hm := mixed_set (l.map convProb) (List.replicate l.length z34) z34 j (by simp) (by simpa using hj)
    rw [← hm]
    congr 2
    simp [rd_T72, convProb, List.getD_eq_getElem?_getD, hj]
  · refine Ev_succ (fun k => ?_)
    simp only [laws_toProbS.l0]
    have hm := mixed_all (l.map convProb) (List.replicate l.length z34) (by simp)
    rw [List.length_map] at hm
    rw [if_neg (by omega), hm]

theorem eqProb_ev (x : S34) : Ev (fun k => laws_eqProb.f x.f0 x.f1 x.f0 x.f1) true := by
  have : laws_eqProb.f x.f0 x.f1 x.f0 x.f1 = some true := by unfold laws_eqProb.f; simp
  simp only [this]
  exact Ev.now _
theorem eqProbS_ev (l : List S34) (h : l.length ≤ 1099511627776) : Ev (fun k => laws_eqProbS.f k l l) true := by
  simp only [laws_eqProbS.f]
  refine evPos trivial ?_
  refine scanE (fun k i => laws_eqProbS.l0 k l l i) l.length (fun _ => true) ?_ ?_ 0 (by omega)
  · intro j hj ih
    refine Ev.step (fun k => laws_eqProbS.l0.eq_2 _ _ _ k) ?_
    refine evPos (by omega) (evPos (by omega) (evPos (by omega) (Ev.bind (eqProb_ev _) (evPos rfl ?_))))
    rw [up1 (by omega)]
    exact ih
  · refine Ev_succ (fun k => ?_)
    simp only [laws_eqProbS.l0]
    rw [if_neg (by omega)]

/-- Element i of the marked list. -/
def mkProb (a i : Nat) : S34 := ⟨((a + 2 * i + 0 : Nat) : Int), decide (Int.tmod ((a + 2 * i + 1 : Nat) : Int) 3 = 0)⟩
def marksProb (a m : Nat) : List S34 := (List.range m).map (mkProb a)
theorem marksProb_length (a m : Nat) : (marksProb a m).length = m := by simp [marksProb]
theorem marksProb_get (a m i : Nat) (h : i < m) : (marksProb a m).getD i z34 = mkProb a i := by simp [marksProb, List.getD_eq_getElem?_getD, h]
theorem markProbS_ev (l : List S34) (a : Nat) (h : l.length ≤ 1099511627776) (ha : a ≤ 1152921504606846976) : Ev (fun k => laws_markProbS.f k l (a : Int)) (((a + 2 * l.length : Nat) : Int), marksProb a l.length) := by
  simp only [laws_markProbS.f]
  have := count (fun k i (s : List S34 × Int) => laws_markProbS.l0 k s.1 s.2 i) l.length (fun j => (mixed (marksProb a l.length) l j, ((a + 2 * j : Nat) : Int))) (((a + 2 * l.length : Nat) : Int), marksProb a l.length) ?_ ?_ 0 (by omega)
  · simpa [mixed_zero] using this
  · intro j hj
    refine ⟨0, fun k _ => ?_⟩
    have hL : (mixed (marksProb a l.length) l j).length = l.length := by rw [mixed_length _ _ _ (by rw [marksProb_length]), marksProb_length]
    have hm := mixed_set (marksProb a l.length) l z34 j (by rw [marksProb_length]) (by rw [marksProb_length]; exact hj)
    rw [marksProb_get _ _ _ hj] at hm
    have hj2 : j < (mixed (marksProb a l.length) l j).length := by omega
    have hj3 : ∀ e, j < ((mixed (marksProb a l.length) l j).set j e).length := by intro e; rw [List.length_set]; exact hj2
    simp only [laws_markProbS.l0]
    rw [if_pos (by omega), if_pos (by omega)]
    simp only [Option.bind_some, Int.toNat_natCast, List.set_set, rdset34 _ _ _ hj2, rdset34 _ _ _ (hj3 _)]
    rw [up1 (j := a + 2 * j) (by omega), up1 (j := a + 2 * j + 1) (by omega), up1 (j := j) (by omega)]
    show laws_markProbS.l0 k _ _ _ = laws_markProbS.l0 k _ _ _
    rw [← hm]
    congr 1
  · refine Ev_succ (fun k => ?_)
    simp only [laws_markProbS.l0]
    rw [if_neg (by rw [mixed_length _ _ _ (by rw [marksProb_length]), marksProb_length]; omega)]
    have := mixed_all (marksProb a l.length) l (by rw [marksProb_length])
    rw [marksProb_length] at this
    rw [this]

theorem szProbS_ok (l : List S72) (h : l.length ≤ 1048576) : Ev (fun _ : Nat => laws_szProbS.f l 1048576) (1048576 - (l.length : Int)) := by
  unfold laws_szProbS.f
  rw [w64 (x := 1048576 - (l.length : Int)) (by omega) (by omega), if_neg (by omega)]
  exact Ev.now _
theorem szProbS_big (l : List S72) (h0 : l.length ≤ 9223372036854775807) (h : ¬ l.length ≤ 1048576) : Ev (fun _ : Nat => laws_szProbS.f l 1048576) (-1) := by
  unfold laws_szProbS.f
  rw [w64 (x := 1048576 - (l.length : Int)) (by omega) (by omega), if_pos (by omega)]
  exact Ev.now _

theorem rdset36 (l : List S36) (e : S36) (j : Nat) (h : j < l.length) : rd_T36 (l.set j e) (j : Int) = e := by simp [rd_T36, List.getD_eq_getElem?_getD, h]
theorem rdn36 (l : List S36) (j : Nat) : rd_T36 l (j : Int) = l.getD j z36 := by simp [rd_T36]
theorem eqBin_ev (x : S36) : Ev (fun k => laws_eqBin.f x.f0 x.f1 x.f0 x.f1) true := by
  have : laws_eqBin.f x.f0 x.f1 x.f0 x.f1 = some true := by unfold laws_eqBin.f; simp
  simp only [this]
  exact Ev.now _
theorem eqBinS_ev (l : List S36) (h : l.length ≤ 1099511627776) : Ev (fun k => laws_eqBinS.f k l l) true := by
  simp only [laws_eqBinS.f]
  refine evPos trivial ?_
  refine scanE (fun k i => laws_eqBinS.l0 k l l i) l.length (fun _ => true) ?_ ?_ 0 (by omega)
  · intro j hj ih
    refine Ev.step (fun k => laws_eqBinS.l0.eq_2 _ _ _ k) ?_
    refine evPos (by omega) (evPos (by omega) (evPos (by omega) (Ev.bind (eqBin_ev _) (evPos rfl ?_))))
    rw [up1 (by omega)]
    exact ih
  · refine Ev_succ (fun k => ?_)
    simp only [laws_eqBinS.l0]
    rw [if_neg (by omega)]

/-- Element i of the marked list. -/
def mkBin (a i : Nat) : S36 := ⟨((a + 2 * i + 0 : Nat) : Int), ((a + 2 * i + 1 : Nat) : Int)⟩
def marksBin (a m : Nat) : List S36 := (List.range m).map (mkBin a)
theorem marksBin_length (a m : Nat) : (marksBin a m).length = m := by simp [marksBin]
theorem marksBin_get (a m i : Nat) (h : i < m) : (marksBin a m).getD i z36 = mkBin a i := by simp [marksBin, List.getD_eq_getElem?_getD, h]
theorem markBinS_ev (l : List S36) (a : Nat) (h : l.length ≤ 1099511627776) (ha : a ≤ 1152921504606846976) : Ev (fun k => laws_markBinS.f k l (a : Int)) (((a + 2 * l.length : Nat) : Int), marksBin a l.length) := by
  simp only [laws_markBinS.f]
  have := count (fun k i (s : List S36 × Int) => laws_markBinS.l0 k s.1 s.2 i) l.length (fun j => (mixed (marksBin a l.length) l j, ((a + 2 * j : Nat) : Int))) (((a + 2 * l.length : Nat) : Int), marksBin a l.length) ?_ ?_ 0 (by omega)
  · simpa [mixed_zero] using this
  · intro j hj
    refine ⟨0, fun k _ => ?_⟩
    have hL : (mixed (marksBin a l.length) l j).length = l.length := by rw [mixed_length _ _ _ (by rw [marksBin_length]), marksBin_length]
    have hm := mixed_set (marksBin a l.length) l z36 j (by rw [marksBin_length]) (by rw [marksBin_length]; exact hj)
    rw [marksBin_get _ _ _ hj] at hm
    have hj2 : j < (mixed (marksBin a l.length) l j).length := by omega
    have hj3 : ∀ e, j < ((mixed (marksBin a l.length) l j).set j e).length := by intro e; rw [List.length_set]; exact hj2
    simp only [laws_markBinS.l0]
    rw [if_pos (by omega), if_pos (by omega)]
    simp only [Option.bind_some, Int.toNat_natCast, List.set_set, rdset36 _ _ _ hj2, rdset36 _ _ _ (hj3 _)]
    rw [up1 (j := a + 2 * j) (by omega), up1 (j := a + 2 * j + 1) (by omega), up1 (j := j) (by omega)]
    show laws_markBinS.l0 k _ _ _ = laws_markBinS.l0 k _ _ _
    rw [← hm]
    congr 1
  · refine Ev_succ (fun k => ?_)
    simp only [laws_markBinS.l0]
    rw [if_neg (by rw [mixed_length _ _ _ (by rw [marksBin_length]), marksBin_length]; omega)]
    have := mixed_all (marksBin a l.length) l (by rw [marksBin_length])
    rw [marksBin_length] at this
    rw [this]

theorem heldBinS_ev (m a : Nat) (h : m ≤ 1099511627776) (ha : a ≤ 1152921504606846976) : Ev (fun k => laws_heldBinS.f k (marksBin a m) (a : Int)) ((a + 2 * m : Nat) : Int) := by
  simp only [laws_heldBinS.f]
  refine count (fun k i (s : Int) => laws_heldBinS.l0 k (marksBin a m) s i) m (fun j => ((a + 2 * j : Nat) : Int)) ((a + 2 * m : Nat) : Int) ?_ ?_ 0 (by omega)
  · intro j hj
    refine ⟨0, fun k _ => ?_⟩
    simp only [laws_heldBinS.l0]
    rw [if_pos (by rw [marksBin_length]; omega), if_pos (by omega)]
    rw [rdn36, marksBin_get _ _ _ hj]
    rw [if_pos (show (mkBin a j).f0 = ((a + 2 * j : Nat) : Int) from rfl)]
    rw [up1 (j := a + 2 * j) (by omega)]
    rw [if_pos (show (mkBin a j).f1 = ((a + 2 * j + 1 : Nat) : Int) from rfl)]
    rw [up1 (j := a + 2 * j + 1) (by omega)]
    rw [up1 (j := j) (by omega)]
    rfl
  · refine Ev_succ (fun k => ?_)
    simp only [laws_heldBinS.l0]
    rw [if_neg (by rw [marksBin_length]; omega)]

end Go.Proofs.Yteobnbichpadjaa.Gen
