/- What the helpers of the laws answer for lists of Elem: copies, comparisons, marks; for lists of at most 2^20 elements. -/
import Derived.Test.YtcdghhihfjojaaaFltL
import Derived.Test.YtcdghhihfjojaaaQx1
import Derived.Test.YtcdghhihfjojaaaQx16
import Derived.Test.YtcdghhihfjojaaaQx17
import Derived.Test.YtcdghhihfjojaaaQx7
import Derived.Test.YtcdghhihfjojaaaQx8
set_option linter.unusedVariables false
set_option linter.unusedSimpArgs false
namespace Go.Proofs.Ytcdghhihfjojaaa.Gen
open Go.RowKit Go.Proofs.Ytcdghhihfjojaaa.Q Go.Proofs.YtcdghhihfjojaaaW.PrintWords Go.Proofs.YtcdghhihfjojaaaW.PrintMore Go.Proofs.YtcdghhihfjojaaaW.PrintFlt

theorem rdset61 (l : List S61) (e : S61) (j : Nat) (h : j < l.length) : rd_T61 (l.set j e) (j : Int) = e := by simp [rd_T61, List.getD_eq_getElem?_getD, h]
theorem rdn61 (l : List S61) (j : Nat) : rd_T61 l (j : Int) = l.getD j z61 := by simp [rd_T61]
def convElem (x : S63) : S61 := ⟨x.f0, x.f1, x.f2, x.f3⟩
theorem toElem_eq (x : S63) : laws_toElem.f x.f0 x.f1 x.f2 x.f3 = some (x.f0, x.f1, x.f2, x.f3) := by unfold laws_toElem.f; rfl
theorem toElemS_ev (l : List S63) (h : l.length ≤ 1048576) : Ev (fun k => laws_toElemS.f k l) (l.map convElem) := by
  simp only [laws_toElemS.f]
  refine evPos (by omega) (evPos (by simp; omega) ?_)
  have := count (fun k i (s : List S61) => laws_toElemS.l0 k l s i) l.length (fun j => mixed (l.map convElem) (List.replicate l.length z61) j) (l.map convElem) ?_ ?_ 0 (by omega)
  · simpa [mixed_zero] using this
  · intro j hj
    refine ⟨0, fun k _ => ?_⟩
    simp only [laws_toElemS.l0]
    rw [if_pos (by omega), if_pos (by omega), toElem_eq, Option.bind_some, if_pos (by rw [mixed_length _ _ _ (by simp)]; simp; omega), up1 (by omega), Int.toNat_natCast]
    have hm := mixed_set (l.map convElem) (List.replicate l.length z61) z61 j (by simp) (by simpa using hj)
    rw [← hm]
    congr 2
    simp [rd_T63, convElem, List.getD_eq_getElem?_getD, hj]
  · refine Ev_succ (fun k => ?_)
    simp only [laws_toElemS.l0]
    have hm := mixed_all (l.map convElem) (List.replicate l.length z61) (by simp)
    rw [List.length_map] at hm
    rw [if_neg (by omega), hm]

theorem eqElem_ev (x : S61) : Ev (fun k => laws_eqElem.f x.f0 x.f1 x.f2 x.f3 x.f0 x.f1 x.f2 x.f3) true := by
  have : laws_eqElem.f x.f0 x.f1 x.f2 x.f3 x.f0 x.f1 x.f2 x.f3 = some true := by unfold laws_eqElem.f; simp
  simp only [this]
  exact Ev.now _
theorem eqElemS_ev (l : List S61) (h : l.length ≤ 1099511627776) : Ev (fun k => laws_eqElemS.f k l l) true := by
  simp only [laws_eqElemS.f]
  refine evPos trivial ?_
  refine scanE (fun k i => laws_eqElemS.l0 k l l i) l.length (fun _ => true) ?_ ?_ 0 (by omega)
  · intro j hj ih
    refine Ev.step (fun k => laws_eqElemS.l0.eq_2 _ _ _ k) ?_
    refine evPos (by omega) (evPos (by omega) (evPos (by omega) (Ev.bind (eqElem_ev _) (evPos rfl ?_))))
    rw [up1 (by omega)]
    exact ih
  · refine Ev_succ (fun k => ?_)
    simp only [laws_eqElemS.l0]
    rw [if_neg (by omega)]

theorem szElemS_ok (l : List S63) (h : l.length ≤ 1048576) : Ev (fun _ : Nat => laws_szElemS.f l 1048576) (1048576 - (l.length : Int)) := by
  unfold laws_szElemS.f
  rw [w64 (x := 1048576 - (l.length : Int)) (by omega) (by omega), if_neg (by omega)]
  exact Ev.now _
theorem szElemS_big (l : List S63) (h0 : l.length ≤ 9223372036854775807) (h : ¬ l.length ≤ 1048576) : Ev (fun _ : Nat => laws_szElemS.f l 1048576) (-1) := by
  unfold laws_szElemS.f
  rw [w64 (x := 1048576 - (l.length : Int)) (by omega) (by omega), if_pos (by omega)]
  exact Ev.now _

end Go.Proofs.Ytcdghhihfjojaaa.Gen
