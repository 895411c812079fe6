/- What the helpers of the laws answer for lists of Read: copies, comparisons, marks; for lists of at most 2^20 elements. -/
import Derived.Test.YtaophbkedbphnabFltL
import Derived.Test.YtaophbkedbphnabQx1
import Derived.Test.YtaophbkedbphnabQx19
import Derived.Test.YtaophbkedbphnabQx20
import Derived.Test.YtaophbkedbphnabQx21
import Derived.Test.YtaophbkedbphnabQx5
import Derived.Test.YtaophbkedbphnabQx6
set_option linter.unusedVariables false
set_option linter.unusedSimpArgs false
namespace Go.Proofs.Ytaophbkedbphnab.Gen
open Go.RowKit Go.Proofs.Ytaophbkedbphnab.Q Go.Proofs.YtaophbkedbphnabW.PrintWords Go.Proofs.YtaophbkedbphnabW.PrintMore Go.Proofs.YtaophbkedbphnabW.PrintFlt

theorem sameFloat_ev (x : Nat) : Ev (fun k => laws_sameFloat.f k x x) true := by
  have hj : Ev (fun k => laws_sameFloat.j0 k x x (fne x x)) true := by
    refine Ev_succ fun k => ?_
    simp only [laws_sameFloat.j0]
    cases h : fne x x with
    | true => rw [if_pos rfl, if_pos rfl]
    | false =>
      rw [if_neg (by decide)]
      have h2 : feq x x = true := by rw [fne_eq] at h; simpa using h
      by_cases h3 : feq x 0 = true
      · rw [if_pos h3, if_pos h3, beq_self_eq_true]
      · rw [if_neg h3, h2]
  simp only [laws_sameFloat.f]
  by_cases h : fne x x = true
  · rw [h] at hj
    exact evPos h hj
  · exact evNeg h hj

theorem rdset76 (l : List S76) (e : S76) (j : Nat) (h : j < l.length) : rd_T76 (l.set j e) (j : Int) = e := by simp [rd_T76, List.getD_eq_getElem?_getD, h]
theorem rdn76 (l : List S76) (j : Nat) : rd_T76 l (j : Int) = l.getD j z76 := by simp [rd_T76]
def convRead (x : S78) : S76 := ⟨x.f0, x.f1, x.f2⟩
theorem toRead_eq (x : S78) : laws_toRead.f x.f0 x.f1 x.f2 = some (x.f0, x.f1, x.f2) := by unfold laws_toRead.f; rfl
theorem toReadS_ev (l : List S78) (h : l.length ≤ 1048576) : Ev (fun k => laws_toReadS.f k l) (l.map convRead) := by
  simp only [laws_toReadS.f]
  refine evPos (by omega) (evPos (by simp; omega) ?_)
  have := count (fun k i (s : List S76) => laws_toReadS.l0 k l s i) l.length (fun j => mixed (l.map convRead) (List.replicate l.length z76) j) (l.map convRead) ?_ ?_ 0 (by omega)
  · simpa [mixed_zero] using this
  · intro j hj
    refine ⟨0, fun k _ => ?_⟩
    simp only [laws_toReadS.l0]
    rw [if_pos (by omega), if_pos (by omega), toRead_eq, Option.bind_some, if_pos (by rw [mixed_length _ _ _ (by simp)]; simp; omega), up1 (by omega), Int.toNat_natCast]
    have hm := mixed_set (l.map convRead) (List.replicate l.length z76) z76 j (by simp) (by simpa using hj)
    rw [← hm]
    congr 2
    simp [rd_T78, convRead, List.getD_eq_getElem?_getD, hj]
  · refine Ev_succ (fun k => ?_)
    simp only [laws_toReadS.l0]
    have hm := mixed_all (l.map convRead) (List.replicate l.length z76) (by simp)
    rw [List.length_map] at hm
    rw [if_neg (by omega), hm]

theorem eqRead_ev (x : S76) : Ev (fun k => laws_eqRead.f k x.f0 x.f1 x.f2 x.f0 x.f1 x.f2) true := by
  simp only [laws_eqRead.f]
  repeat' first | exact Ev.now _ | refine Ev.bind (sameFloat_ev _) (evPos rfl ?_) | refine evPos rfl ?_
theorem eqReadS_ev (l : List S76) (h : l.length ≤ 1099511627776) : Ev (fun k => laws_eqReadS.f k l l) true := by
  simp only [laws_eqReadS.f]
  refine evPos trivial ?_
  refine scanE (fun k i => laws_eqReadS.l0 k l l i) l.length (fun _ => true) ?_ ?_ 0 (by omega)
  · intro j hj ih
    refine Ev.step (fun k => laws_eqReadS.l0.eq_2 _ _ _ k) ?_
    refine evPos (by omega) (evPos (by omega) (evPos (by omega) (Ev.bind (eqRead_ev _) (evPos rfl ?_))))
    rw [up1 (by omega)]
    exact ih
  · refine Ev_succ (fun k => ?_)
    simp only [laws_eqReadS.l0]
    rw [if_neg (by omega)]

theorem szReadS_ok (l : List S78) (h : l.length ≤ 1048576) : Ev (fun _ : Nat => laws_szReadS.f l 1048576) (1048576 - (l.length : Int)) := by
  unfold laws_szReadS.f
  rw [w64 (x := 1048576 - (l.length : Int)) (by omega) (by omega), if_neg (by omega)]
  exact Ev.now _
theorem szReadS_big (l : List S78) (h0 : l.length ≤ 9223372036854775807) (h : ¬ l.length ≤ 1048576) : Ev (fun _ : Nat => laws_szReadS.f l 1048576) (-1) := by
  unfold laws_szReadS.f
  rw [w64 (x := 1048576 - (l.length : Int)) (by omega) (by omega), if_pos (by omega)]
  exact Ev.now _

end Go.Proofs.Ytaophbkedbphnab.Gen
