/- What the helpers of the laws answer for lists of Wind: copies, comparisons, marks; for lists of at most 2^20 elements. -/
import Derived.Test.YtpileeenoocjpaaDoorFltL
import Derived.Test.YtpileeenoocjpaaDoorQx1
import Derived.Test.YtpileeenoocjpaaDoorQx3
import Derived.Test.YtpileeenoocjpaaDoorQx6
import Derived.Test.YtpileeenoocjpaaDoorQx7
set_option linter.unusedVariables false
set_option linter.unusedSimpArgs false
namespace Go.Proofs.YtpileeenoocjpaaDoor.Gen
open Go.RowKit Go.Proofs.YtpileeenoocjpaaDoor.Q Go.Proofs.YtpileeenoocjpaaDoorW.PrintWords Go.Proofs.YtpileeenoocjpaaDoorW.PrintMore Go.Proofs.YtpileeenoocjpaaDoorW.PrintFlt

theorem sameFloat_ev (x : Nat) : Ev (fun k => laws_sameFloat.f k x x) true := by
  have hj : Ev (fun k => laws_sameFloat.j0 k x x (fne x x)) true := by
    refine Ev_succ fun k => ?_
    simp only [laws_sameFloat.j0]
    cases h : fne x x with
    | true => rw [if_pos rfl, if_pos rfl]
    | false =>
      rw [if_neg (by decide)]
      have h2 : feq x x = true := by rw [fne_eq] at h; simpa using h
      by_cases h3 : feq x 0 = true
      · rw [if_pos h3, if_pos h3, beq_self_eq_true]
      · rw [if_neg h3, h2]
  simp only [laws_sameFloat.f]
  by_cases h : fne x x = true
  · rw [h] at hj
    exact evPos h hj
  · exact evNeg h hj

theorem rdset54 (l : List S54) (e : S54) (j : Nat) (h : j < l.length) : rd_T54 (l.set j e) (j : Int) = e := by simp [rd_T54, List.getD_eq_getElem?_getD, h]
theorem rdn54 (l : List S54) (j : Nat) : rd_T54 l (j : Int) = l.getD j z54 := by simp [rd_T54]
def convWind (x : S75) : S54 := ⟨x.f0, x.f1⟩
theorem toWind_eq (x : S75) : laws_toWind.f x.f0 x.f1 = some (x.f0, x.f1) := by unfold laws_toWind.f; rfl
theorem toWindS_ev (l : List S75) (h : l.length ≤ 1048576) : Ev (fun k => laws_toWindS.f k l) (l.map convWind) := by
  simp only [laws_toWindS.f]
  refine evPos (by omega) (evPos (by simp; omega) ?_)
  have := count (fun k i (s : List S54) => laws_toWindS.l0 k l s i) l.length (fun j => mixed (l.map convWind) (List.replicate l.length z54) j) (l.map convWind) ?_ ?_ 0 (by omega)
  · simpa [mixed_zero] using this
  · intro j hj
    refine ⟨0, fun k _ => ?_⟩
    simp only [laws_toWindS.l0]
    rw [if_pos (by omega), if_pos (by omega), toWind_eq, Option.bind_some, if_pos (by rw [mixed_length _ _ _ (by simp)]; simp; omega), up1 (by omega), Int.toNat_natCast]
    have hm := mixed_set (l.map convWind) (List.replicate l.length z54) z54 j (by simp) (by simpa using hj)
    rw [← hm]
    congr 2
    simp [rd_T75, convWind, List.getD_eq_getElem?_getD, hj]
  · refine Ev_succ (fun k => ?_)
    simp only [laws_toWindS.l0]
    have hm := mixed_all (l.map convWind) (List.replicate l.length z54) (by simp)
    rw [List.length_map] at hm
    rw [if_neg (by omega), hm]

theorem eqWind_ev (x : S54) : Ev (fun k => laws_eqWind.f k x.f0 x.f1 x.f0 x.f1) true := by
  simp only [laws_eqWind.f]
  repeat' first | exact Ev.now _ | refine Ev.bind (sameFloat_ev _) (evPos rfl ?_) | refine evPos rfl ?_
theorem eqWindS_ev (l : List S54) (h : l.length ≤ 1099511627776) : Ev (fun k => laws_eqWindS.f k l l) true := by
  simp only [laws_eqWindS.f]
  refine evPos trivial ?_
  refine scanE (fun k i => laws_eqWindS.l0 k l l i) l.length (fun _ => true) ?_ ?_ 0 (by omega)
  · intro j hj ih
    refine Ev.step (fun k => laws_eqWindS.l0.eq_2 _ _ _ k) ?_
    refine evPos (by omega) (evPos (by omega) (evPos (by omega) (Ev.bind (eqWind_ev _) (evPos rfl ?_))))
    rw [up1 (by omega)]
    exact ih
  · refine Ev_succ (fun k => ?_)
    simp only [laws_eqWindS.l0]
    rw [if_neg (by omega)]

theorem szWindS_ok (l : List S75) (h : l.length ≤ 1048576) : Ev (fun _ : Nat => laws_szWindS.f l 1048576) (1048576 - (l.length : Int)) := by
  unfold laws_szWindS.f
  rw [w64 (x := 1048576 - (l.length : Int)) (by omega) (by omega), if_neg (by omega)]
  exact Ev.now _
theorem szWindS_big (l : List S75) (h0 : l.length ≤ 9223372036854775807) (h : ¬ l.length ≤ 1048576) : Ev (fun _ : Nat => laws_szWindS.f l 1048576) (-1) := by
  unfold laws_szWindS.f
  rw [w64 (x := 1048576 - (l.length : Int)) (by omega) (by omega), if_pos (by omega)]
  exact Ev.now _

end Go.Proofs.YtpileeenoocjpaaDoor.Gen
