/- Lists of constituents of a tide: copies, comparisons, marks; when a list is right; for lists of at most 2^20 elements. -/
import Derived.Test.YtpileeenoocjpaaDoorTurnL
import Derived.Test.YtpileeenoocjpaaDoorInS
import Derived.Test.YtpileeenoocjpaaDoorQx1
import Derived.Test.YtpileeenoocjpaaDoorQx10
import Derived.Test.YtpileeenoocjpaaDoorQx2
import Derived.Test.YtpileeenoocjpaaDoorQx3
import Derived.Test.YtpileeenoocjpaaDoorQx4
import Derived.Test.YtpileeenoocjpaaDoorQx6
import Derived.Test.YtpileeenoocjpaaDoorQx8
set_option linter.unusedVariables false
set_option linter.unusedSimpArgs false
namespace Go.Proofs.YtpileeenoocjpaaDoor.Gen
open Go.RowKit Go.Proofs.YtpileeenoocjpaaDoor.Q Go.Proofs.YtpileeenoocjpaaDoorW.PrintWords Go.Proofs.YtpileeenoocjpaaDoorW.PrintMore Go.Proofs.YtpileeenoocjpaaDoorW.PrintFlt

theorem sameFloat_ev (x : Nat) : Ev (fun k => laws_sameFloat.f k x x) true := by
  have hj : Ev (fun k => laws_sameFloat.j0 k x x (fne x x)) true := by
    refine Ev_succ fun k => ?_
    simp only [laws_sameFloat.j0]
    cases h : fne x x with
    | true => rw [if_pos rfl, if_pos rfl]
    | false =>
      rw [if_neg (by decide)]
      have h2 : feq x x = true := by rw [fne_eq] at h; simpa using h
      by_cases h3 : feq x 0 = true
      · rw [if_pos h3, if_pos h3, beq_self_eq_true]
      · rw [if_neg h3, h2]
  simp only [laws_sameFloat.f]
  by_cases h : fne x x = true
  · rw [h] at hj
    exact evPos h hj
  · exact evNeg h hj
theorem eqPair_ev (x y : Nat) : Ev (fun k => laws_eqPair.f k x y x y) true := by
  simp only [laws_eqPair.f]
  exact Ev.bind (sameFloat_ev x) (evPos rfl (Ev.bind (sameFloat_ev y) (evPos rfl (Ev.now _))))
def convC (x : S68) : S63 := ⟨x.f0, ⟨x.f1.f0, x.f1.f1⟩⟩
theorem toC_eq (a : Int) (b c : Nat) : laws_toConstituent.f a b c = some (a, b, c) := by unfold laws_toConstituent.f laws_toPair.f; rfl
theorem toConstituentS_ev (l : List S68) (h : l.length ≤ 1048576) : Ev (fun k => laws_toConstituentS.f k l) (l.map convC) := by
  simp only [laws_toConstituentS.f]
  refine evPos (by omega) (evPos (by simp; omega) ?_)
  have := count (fun k i (s : List S63) => laws_toConstituentS.l0 k l s i) l.length (fun j => mixed (l.map convC) (List.replicate l.length z63) j) (l.map convC) ?_ ?_ 0 (by omega)
  · simpa [mixed_zero] using this
  · intro j hj
    refine ⟨0, fun k _ => ?_⟩
    simp only [laws_toConstituentS.l0]
    rw [if_pos (by omega), if_pos (by omega), toC_eq, Option.bind_some, if_pos (by rw [mixed_length _ _ _ (by simp)]; simp; omega), up1 (by omega), Int.toNat_natCast]
    have hm := mixed_set (l.map convC) (List.replicate l.length z63) z63 j (by simp) (by simpa using hj)
    rw [← hm]
    congr 2
    simp [rd_T68, convC, List.getD_eq_getElem?_getD, hj]
  · refine Ev_succ (fun k => ?_)
    simp only [laws_toConstituentS.l0]
    have hm := mixed_all (l.map convC) (List.replicate l.length z63) (by simp)
    rw [List.length_map] at hm
    rw [if_neg (by omega), hm]
theorem eqC_ev (x : S63) : Ev (fun k => laws_eqConstituent.f k x.f0 x.f1.f0 x.f1.f1 x.f0 x.f1.f0 x.f1.f1) true := by
  simp only [laws_eqConstituent.f]
  exact evPos trivial (Ev.bind (eqPair_ev _ _) (evPos rfl (Ev.now _)))
theorem eqConstituentS_ev (l : List S63) (h : l.length ≤ 1099511627776) : Ev (fun k => laws_eqConstituentS.f k l l) true := by
  simp only [laws_eqConstituentS.f]
  refine evPos trivial ?_
  refine scanE (fun k i => laws_eqConstituentS.l0 k l l i) l.length (fun _ => true) ?_ ?_ 0 (by omega)
  · intro j hj ih
    refine Ev.step (fun k => laws_eqConstituentS.l0.eq_2 _ _ _ k) ?_
    refine evPos (by omega) (evPos (by omega) (evPos (by omega) (Ev.bind (eqC_ev _) (evPos rfl ?_))))
    rw [up1 (by omega)]
    exact ih
  · refine Ev_succ (fun k => ?_)
    simp only [laws_eqConstituentS.l0]
    rw [if_neg (by omega)]
theorem szConstituentS_ok (l : List S68) (h : l.length ≤ 1048576) : Ev (fun _ : Nat => laws_szConstituentS.f l 1048576) (1048576 - (l.length : Int)) := by
  unfold laws_szConstituentS.f
  rw [w64 (x := 1048576 - (l.length : Int)) (by omega) (by omega), if_neg (by omega)]
  exact Ev.now _
theorem szConstituentS_big (l : List S68) (h0 : l.length ≤ 9223372036854775807) (h : ¬ l.length ≤ 1048576) : Ev (fun _ : Nat => laws_szConstituentS.f l 1048576) (-1) := by
  unfold laws_szConstituentS.f
  rw [w64 (x := 1048576 - (l.length : Int)) (by omega) (by omega), if_pos (by omega)]
  exact Ev.now _

theorem drop63 (l : List S63) (i : Nat) (h : i < l.length) : l.drop i = rd_T63 l (i : Int) :: l.drop (i + 1) := by
  rw [List.drop_eq_getElem_cons h]
  simp [rd_T63, h]
def trn (a : Int) : Nat × Nat := (spec_Turn.f a).getD (0, 0)
theorem trn_spec (a : Int) : spec_Turn.f a = some (trn a) := by
  obtain ⟨c, s, e, _⟩ := turn_both a
  unfold trn
  rw [e]
  rfl
theorem trn_impl (a : Int) : impl_Turn.f a sinT = some (trn a) := by
  obtain ⟨c, s, e, e2, _⟩ := turn_both a
  unfold trn
  rw [e, e2]
  rfl
def partOk (e : S63) : Bool := inS e.f0 (-100) 100
theorem ok_spec0 (l : List S63) (hl : l.length ≤ 40) : ∀ t i, i + t = l.length → Ev (fun k => spec_l20Ok.l0 k l (i : Int)) ((l.drop i).all partOk) := by
  intro t
  induction t with
  | zero =>
    intro i h
    refine Ev.step (fun k => spec_l20Ok.l0.eq_2 _ _ k) (evNeg (by omega) ?_)
    rw [List.drop_of_length_le (by omega)]
    exact Ev.now _
  | succ t ih =>
    intro i h
    refine Ev.step (fun k => spec_l20Ok.l0.eq_2 _ _ k) (evPos (by omega) (evPos (by omega) ?_))
    rw [drop63 l i (by omega), List.all_cons, l2In_s, up1 (by omega)]
    unfold partOk
    by_cases c : inS (rd_T63 l (i : Int)).f0 (-100) 100 = true
    · rw [c, Bool.true_and]; exact Ev.bind (Ev.now _) (evPos rfl (ih (i + 1) (by omega)))
    · rw [Bool.not_eq_true] at c; rw [c]; exact Ev.bind (Ev.now _) (evNeg (by decide) (Ev.now _))
theorem ok_impl0 (l : List S63) (hl : l.length ≤ 40) : ∀ t i, i + t = l.length → Ev (fun k => impl_partsOk.l0 k l (l.length : Int) (i : Int)) ((l.drop i).all partOk) := by
  intro t
  induction t with
  | zero =>
    intro i h
    refine Ev.step (fun k => impl_partsOk.l0.eq_2 _ _ _ k) (evNeg (by omega) ?_)
    rw [List.drop_of_length_le (by omega)]
    exact Ev.now _
  | succ t ih =>
    intro i h
    refine Ev.step (fun k => impl_partsOk.l0.eq_2 _ _ _ k) (evPos (by omega) (evPos (by omega) (evPos (by omega) ?_)))
    rw [drop63 l i (by omega), List.all_cons, in_s, up1 (by omega)]
    unfold partOk
    by_cases c : inS (rd_T63 l (i : Int)).f0 (-100) 100 = true
    · rw [c, Bool.true_and]; exact Ev.bind (Ev.now _) (evPos rfl (ih (i + 1) (by omega)))
    · rw [Bool.not_eq_true] at c; rw [c]; exact Ev.bind (Ev.now _) (evNeg (by decide) (Ev.now _))
def partsOk (l : List S63) : Bool := decide (l.length ≤ 40) && l.all partOk
theorem partsOk_len {l : List S63} (h : partsOk l = true) : l.length ≤ 40 := by
  simp only [partsOk, Bool.and_eq_true, decide_eq_true_eq] at h
  exact h.1
theorem ok_spec (l : List S63) : Ev (fun k => spec_l20Ok.f k l) (partsOk l) := by
  simp only [spec_l20Ok.f]
  unfold partsOk
  by_cases c : l.length ≤ 40
  · rw [decide_eq_true c, Bool.true_and]
    have := ok_spec0 l c l.length 0 (by omega)
    rw [List.drop_zero] at this
    exact evNeg (by omega) this
  · rw [decide_eq_false c]; exact evPos (by omega) (Ev.now _)
theorem ok_impl (l : List S63) : Ev (fun k => impl_partsOk.f k l) (partsOk l) := by
  simp only [impl_partsOk.f]
  unfold partsOk
  by_cases c : l.length ≤ 40
  · rw [decide_eq_true c, Bool.true_and]
    have := ok_impl0 l c l.length 0 (by omega)
    rw [List.drop_zero] at this
    exact evNeg (by omega) this
  · rw [decide_eq_false c]; exact evPos (by omega) (Ev.now _)
theorem hour_spec (h : Int) : spec_l20Hour.f h = some (inS h (-1000000) 1000000) := by
  unfold spec_l20Hour.f; rw [l2In_s]; rfl
theorem hour_impl (h : Int) : impl_hourOk.f h = some (inS h (-1000000) 1000000) := by
  unfold impl_hourOk.f; rw [in_s]; rfl
theorem rdset63 (l : List S63) (e : S63) (j : Nat) (h : j < l.length) : rd_T63 (l.set j e) (j : Int) = e := by simp [rd_T63, List.getD_eq_getElem?_getD, h]
theorem rdn63 (l : List S63) (j : Nat) : rd_T63 l (j : Int) = l.getD j z63 := by simp [rd_T63]
/-- Element i of the marked list. -/
def mkC (a i : Nat) : S63 := ⟨((a + 3 * i : Nat) : Int), ⟨foi ((a + 3 * i + 1 : Nat) : Int), foi ((a + 3 * i + 2 : Nat) : Int)⟩⟩
def marksC (a m : Nat) : List S63 := (List.range m).map (mkC a)
theorem marksC_length (a m : Nat) : (marksC a m).length = m := by simp [marksC]
theorem marksC_get (a m i : Nat) (h : i < m) : (marksC a m).getD i z63 = mkC a i := by simp [marksC, List.getD_eq_getElem?_getD, h]
theorem markConstituentS_ev (l : List S63) (a : Nat) (h : l.length ≤ 1099511627776) (ha : a ≤ 1152921504606846976) : Ev (fun k => laws_markConstituentS.f k l (a : Int)) (((a + 3 * l.length : Nat) : Int), marksC a l.length) := by
  simp only [laws_markConstituentS.f]
  have := count (fun k i (s : List S63 × Int) => laws_markConstituentS.l0 k s.1 s.2 i) l.length (fun j => (mixed (marksC a l.length) l j, ((a + 3 * j : Nat) : Int))) (((a + 3 * l.length : Nat) : Int), marksC a l.length) ?_ ?_ 0 (by omega)
  · simpa [mixed_zero] using this
  · intro j hj
    refine ⟨0, fun k _ => ?_⟩
    have hL : (mixed (marksC a l.length) l j).length = l.length := by rw [mixed_length _ _ _ (by rw [marksC_length]), marksC_length]
    have hm := mixed_set (marksC a l.length) l z63 j (by rw [marksC_length]) (by rw [marksC_length]; exact hj)
    rw [marksC_get _ _ _ hj] at hm
    have hj2 : j < (mixed (marksC a l.length) l j).length := by omega
    have hj3 : ∀ e, j < ((mixed (marksC a l.length) l j).set j e).length := by intro e; rw [List.length_set]; exact hj2
    simp only [laws_markConstituentS.l0]
    rw [if_pos (by omega), if_pos (by omega)]
    simp only [Option.bind_some, Int.toNat_natCast, List.set_set, rdset63 _ _ _ hj2, rdset63 _ _ _ (hj3 _)]
    rw [up1 (j := a + 3 * j) (by omega), up1 (j := a + 3 * j + 1) (by omega), up1 (j := a + 3 * j + 2) (by omega), up1 (j := j) (by omega)]
    show laws_markConstituentS.l0 k _ _ _ = laws_markConstituentS.l0 k _ _ _
    rw [← hm]
    congr 1
  · refine Ev_succ (fun k => ?_)
    simp only [laws_markConstituentS.l0]
    rw [if_neg (by rw [mixed_length _ _ _ (by rw [marksC_length]), marksC_length]; omega)]
    have := mixed_all (marksC a l.length) l (by rw [marksC_length])
    rw [marksC_length] at this
    rw [this]
theorem heldConstituentS_ev (m a : Nat) (h : m ≤ 1099511627776) (ha : a ≤ 1152921504606846976) : Ev (fun k => laws_heldConstituentS.f k (marksC a m) (a : Int)) ((a + 3 * m : Nat) : Int) := by
  simp only [laws_heldConstituentS.f]
  refine count (fun k i (s : Int) => laws_heldConstituentS.l0 k (marksC a m) s i) m (fun j => ((a + 3 * j : Nat) : Int)) ((a + 3 * m : Nat) : Int) ?_ ?_ 0 (by omega)
  · intro j hj
    refine ⟨0, fun k _ => ?_⟩
    simp only [laws_heldConstituentS.l0]
    rw [if_pos (by rw [marksC_length]; omega), if_pos (by omega)]
    rw [rdn63, marksC_get _ _ _ hj, if_pos (show (mkC a j).f0 = ((a + 3 * j : Nat) : Int) from rfl), up1 (j := a + 3 * j) (by omega), up1 (j := a + 3 * j + 1) (by omega), up1 (j := a + 3 * j + 2) (by omega)]
    rw [if_neg (by show ¬ fne (foi ((a + 3 * j + 1 : Nat) : Int)) (foi ((a + 3 * j + 1 : Nat) : Int)) = true; rw [fne_self, isn_foi]; decide), if_neg (by show ¬ fne (foi ((a + 3 * j + 2 : Nat) : Int)) (foi ((a + 3 * j + 2 : Nat) : Int)) = true; rw [fne_self, isn_foi]; decide)]
    rw [up1 (j := j) (by omega)]
    rfl
  · refine Ev_succ (fun k => ?_)
    simp only [laws_heldConstituentS.l0]
    rw [if_neg (by rw [marksC_length]; omega)]
end Go.Proofs.YtpileeenoocjpaaDoor.Gen
