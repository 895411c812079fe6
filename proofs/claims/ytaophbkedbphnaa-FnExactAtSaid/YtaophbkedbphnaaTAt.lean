/- What the helpers of the laws answer for lists of Float64: copies, comparisons, marks; for lists of at most 2^20 elements. -/
import Derived.Test.YtaophbkedbphnaaFltL
import Derived.Test.YtaophbkedbphnaaQx1
import Derived.Test.YtaophbkedbphnaaQx10
import Derived.Test.YtaophbkedbphnaaQx24
set_option linter.unusedVariables false
set_option linter.unusedSimpArgs false
namespace Go.Proofs.Ytaophbkedbphnaa.Gen
open Go.RowKit Go.Proofs.Ytaophbkedbphnaa.Q Go.Proofs.YtaophbkedbphnaaW.PrintWords Go.Proofs.YtaophbkedbphnaaW.PrintMore Go.Proofs.YtaophbkedbphnaaW.PrintFlt

theorem sameFloat_ev (x : Nat) : Ev (fun k => laws_sameFloat.f k x x) true := by
  have hj : Ev (fun k => laws_sameFloat.j0 k x x (fne x x)) true := by
    refine Ev_succ fun k => ?_
    simp only [laws_sameFloat.j0]
    cases h : fne x x with
    | true => rw [if_pos rfl, if_pos rfl]
    | false =>
      rw [if_neg (by decide)]
      have h2 : feq x x = true := by rw [fne_eq] at h; simpa using h
      by_cases h3 : feq x 0 = true
      · rw [if_pos h3, if_pos h3, beq_self_eq_true]
      · rw [if_neg h3, h2]
  simp only [laws_sameFloat.f]
  by_cases h : fne x x = true
  · rw [h] at hj
    exact evPos h hj
  · exact evNeg h hj

theorem toFloat64S_ev (l : List Nat) (h : l.length ≤ 1048576) : Ev (fun k => laws_toFloat64S.f k l) l := by
  simp only [laws_toFloat64S.f]
  refine evPos (by omega) (evPos (by simp; omega) ?_)
  have := count (fun k i (s : List Nat) => laws_toFloat64S.l0 k l s i) l.length (fun j => mixed l (List.replicate l.length 0) j) l ?_ ?_ 0 (by omega)
  · simpa [mixed_zero] using this
  · intro j hj
    refine ⟨0, fun k _ => ?_⟩
    simp only [laws_toFloat64S.l0]
    rw [if_pos (by omega), if_pos (by omega), if_pos (by rw [mixed_length _ _ _ (by simp)]; omega), up1 (by omega), Int.toNat_natCast]
    have hm := mixed_set l (List.replicate l.length 0) 0 j (by simp) hj
    rw [← hm]
    congr 2 <;> simp [rd_F]
  · refine Ev_succ (fun k => ?_)
    simp only [laws_toFloat64S.l0]
    rw [if_neg (by omega), mixed_all _ _ (by simp)]

theorem eqFloat64S_ev (l : List Nat) (h : l.length ≤ 1099511627776) : Ev (fun k => laws_eqFloat64S.f k l l) true := by
  simp only [laws_eqFloat64S.f]
  refine evPos trivial ?_
  refine scanE (fun k i => laws_eqFloat64S.l0 k l l i) l.length (fun _ => true) ?_ ?_ 0 (by omega)
  · intro j hj ih
    refine Ev.step (fun k => laws_eqFloat64S.l0.eq_2 _ _ _ k) ?_
    refine evPos (by omega) (evPos (by omega) (evPos (by omega) (Ev.bind (sameFloat_ev _) (evPos rfl ?_))))
    rw [up1 (by omega)]
    exact ih
  · refine Ev_succ (fun k => ?_)
    simp only [laws_eqFloat64S.l0]
    rw [if_neg (by omega)]

end Go.Proofs.Ytaophbkedbphnaa.Gen
