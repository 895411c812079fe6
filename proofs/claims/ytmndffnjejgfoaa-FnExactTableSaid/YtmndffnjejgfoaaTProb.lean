/- What the helpers of the laws answer for lists of Prob: copies, comparisons, marks; for lists of at most 2^20 elements. -/
import Derived.Test.YtmndffnjejgfoaaGen
import Derived.Test.YtmndffnjejgfoaaQx11
import Derived.Test.YtmndffnjejgfoaaQx12
import Derived.Test.YtmndffnjejgfoaaQx9
set_option linter.unusedVariables false
set_option linter.unusedSimpArgs false
namespace Go.Proofs.Ytmndffnjejgfoaa.Gen
open Go.RowKit Go.Proofs.Ytmndffnjejgfoaa.Q Go.Proofs.YtmndffnjejgfoaaW.PrintWords Go.Proofs.YtmndffnjejgfoaaW.PrintMore

def convProb (x : S61) : S59 := ⟨x.f0, x.f1⟩
theorem toProb_eq (x : S61) : laws_toProb.f x.f0 x.f1 = some (x.f0, x.f1) := by unfold laws_toProb.f; rfl
theorem toProbS_ev (l : List S61) (h : l.length ≤ 1048576) : Ev (fun k => laws_toProbS.f k l) (l.map convProb) := by
  simp only [laws_toProbS.f]
  refine evPos (by omega) (evPos (by simp; omega) ?_)
  have := count (fun k i (s : List S59) => laws_toProbS.l0 k l s i) l.length (fun j => mixed (l.map convProb) (List.replicate l.length z59) j) (l.map convProb) ?_ ?_ 0 (by omega)
  · simpa [mixed_zero] using this
  · intro j hj
    refine ⟨0, fun k _ => ?_⟩
    simp only [laws_toProbS.l0]
    rw [if_pos (by omega), if_pos (by omega), toProb_eq, Option.bind_some, if_pos (by rw [mixed_length _ _ _ (by simp)]; simp; omega), up1 (by omega), Int.toNat_natCast]
    have hm := mixed_set (l.map convProb) (List.replicate l.length z59) z59 j (by simp) (by simpa using hj)
    rw [← hm]
    congr 2
    simp [rd_T61, convProb, List.getD_eq_getElem?_getD, hj]
  · refine Ev_succ (fun k => ?_)
    simp only [laws_toProbS.l0]
    have hm := mixed_all (l.map convProb) (List.replicate l.length z59) (by simp)
    rw [List.length_map] at hm
    rw [if_neg (by omega), hm]

theorem eqProb_refl (x : S59) : laws_eqProb.f x.f0 x.f1 x.f0 x.f1 = some true := by unfold laws_eqProb.f; simp
theorem eqProbS_ev (l : List S59) (h : l.length ≤ 1099511627776) : Ev (fun k => laws_eqProbS.f k l l) true := by
  simp only [laws_eqProbS.f]
  refine evPos (by trivial) ?_
  refine count (fun k i (_ : Unit) => laws_eqProbS.l0 k l l i) l.length (fun _ => ()) true ?_ ?_ 0 (by omega)
  · intro j hj
    refine ⟨0, fun k _ => ?_⟩
    simp only [laws_eqProbS.l0]
    rw [if_pos (by omega), if_pos (by omega), if_pos (by omega), eqProb_refl, Option.bind_some, if_pos rfl, up1 (by omega)]
  · refine Ev_succ (fun k => ?_)
    simp only [laws_eqProbS.l0]
    rw [if_neg (by omega)]

end Go.Proofs.Ytmndffnjejgfoaa.Gen
