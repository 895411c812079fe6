/- Lists of whole numbers: the copy is the list, a list equals itself, marked lists are held; for lists of at most 2^40 elements. -/
import Derived.Test.YtcdghhihfjojaaaGen
import Derived.Test.YtcdghhihfjojaaaQx1
import Derived.Test.YtcdghhihfjojaaaQx12
import Derived.Test.YtcdghhihfjojaaaQx2
set_option linter.unusedVariables false
set_option linter.unusedSimpArgs false
namespace Go.Proofs.Ytcdghhihfjojaaa.Gen
open Go.RowKit Go.Proofs.Ytcdghhihfjojaaa.Q Go.Proofs.YtcdghhihfjojaaaW.PrintWords Go.Proofs.YtcdghhihfjojaaaW.PrintMore

theorem toInt64S_ev (l : List Int) (h : l.length ≤ 1048576) : Ev (fun k => laws_toInt64S.f k l) l := by
  simp only [laws_toInt64S.f]
  refine evPos (by omega) (evPos (by simp; omega) ?_)
  have := count (fun k i (s : List Int) => laws_toInt64S.l0 k l s i) l.length (fun j => mixed l (List.replicate l.length 0) j) l ?_ ?_ 0 (by omega)
  · simpa [mixed_zero] using this
  · intro j hj
    refine ⟨0, fun k _ => ?_⟩
    simp only [laws_toInt64S.l0]
    rw [if_pos (by omega), if_pos (by omega), if_pos (by rw [mixed_length _ _ _ (by simp)]; omega), up1 (by omega), Int.toNat_natCast, rd_nat, mixed_set _ _ _ _ (by simp) hj]
  · refine Ev_succ (fun k => ?_)
    simp only [laws_toInt64S.l0]
    rw [if_neg (by omega), mixed_all _ _ (by simp)]

theorem eqInt64S_ev (l : List Int) (h : l.length ≤ 1099511627776) : Ev (fun k => laws_eqInt64S.f k l l) true := by
  simp only [laws_eqInt64S.f]
  refine evPos (by trivial) ?_
  refine count (fun k i (_ : Unit) => laws_eqInt64S.l0 k l l i) l.length (fun _ => ()) true ?_ ?_ 0 (by omega)
  · intro j hj
    refine ⟨0, fun k _ => ?_⟩
    simp only [laws_eqInt64S.l0]
    rw [if_pos (by omega), if_pos (by omega), if_pos (by omega), if_pos trivial, up1 (by omega)]
  · refine Ev_succ (fun k => ?_)
    simp only [laws_eqInt64S.l0]
    rw [if_neg (by omega)]

theorem markInt64S_ev (l : List Int) (a : Nat) (h : l.length ≤ 1099511627776) (ha : a ≤ 1152921504606846976) : Ev (fun k => laws_markInt64S.f k l (a : Int)) (((a + l.length : Nat) : Int), marks a l.length) := by
  simp only [laws_markInt64S.f]
  have := count (fun k i (s : List Int × Int) => laws_markInt64S.l0 k s.1 s.2 i) l.length (fun j => (mixed (marks a l.length) l j, ((a + j : Nat) : Int))) (((a + l.length : Nat) : Int), marks a l.length) ?_ ?_ 0 (by omega)
  · simpa [mixed_zero] using this
  · intro j hj
    refine ⟨0, fun k _ => ?_⟩
    have hm := mixed_set (marks a l.length) l 0 j (by rw [marks_length]) (by rw [marks_length]; exact hj)
    rw [marks_get _ _ _ hj] at hm
    simp only [laws_markInt64S.l0]
    rw [if_pos (by rw [mixed_length _ _ _ (by rw [marks_length]), marks_length]; omega), if_pos (by omega), up1 (by omega), up1 (by omega), Int.toNat_natCast, show ((a + j : Nat) : Int) = (a : Int) + (j : Int) by omega, hm]
    rfl
  · refine Ev_succ (fun k => ?_)
    simp only [laws_markInt64S.l0]
    rw [if_neg (by rw [mixed_length _ _ _ (by rw [marks_length]), marks_length]; omega)]
    have := mixed_all (marks a l.length) l (by rw [marks_length])
    rw [marks_length] at this
    rw [this]


end Go.Proofs.Ytcdghhihfjojaaa.Gen
