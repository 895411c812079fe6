/- The plain statement of the law FnExactUnwaves: program and reference make the same row of waves; no condition. -/
import Derived.Test.YtpileeenoocjpaaDoorWavesL
import Derived.Test.YtpileeenoocjpaaDoorQx11
import Derived.Test.YtpileeenoocjpaaDoorQx12
import Derived.Test.YtpileeenoocjpaaDoorQx6
set_option linter.unusedVariables false
set_option linter.unusedSimpArgs false
namespace Go.Proofs.YtpileeenoocjpaaDoor.Pure
open Go.RowKit Go.Proofs.YtpileeenoocjpaaDoor.Q Go.Proofs.YtpileeenoocjpaaDoor.Gen Go.Proofs.YtpileeenoocjpaaDoorW.PrintWords Go.Proofs.YtpileeenoocjpaaDoorW.PrintMore Go.Proofs.YtpileeenoocjpaaDoorW.PrintFlt

def quot (x : Nat) (e : S42) : S42 := ⟨fdiv e.f0 x, fdiv e.f1 x⟩
theorem set_quot (l : List S42) (x : Nat) (j : Nat) (hj : j < l.length) : (mixed (l.map (quot x)) l j).set j ⟨fdiv ((rd_T42 (mixed (l.map (quot x)) l j) (j : Int)).f0) x, fdiv ((rd_T42 (mixed (l.map (quot x)) l j) (j : Int)).f1) x⟩ = mixed (l.map (quot x)) l (j + 1) := by
  have hm := mixed_set (l.map (quot x)) l z42 j (by simp) (by simpa using hj)
  have hg := mixed_get_right (l.map (quot x)) l z42 j j (Nat.le_refl _) (by simp; omega)
  have hr : rd_T42 (mixed (l.map (quot x)) l j) (j : Int) = l.getD j z42 := by
    rw [← hg]
    simp [rd_T42, List.getD_eq_getElem?_getD]
  rw [hr, ← hm]
  congr 1
  simp [quot, List.getD_eq_getElem?_getD, hj]
theorem un_spec (l : List S42) (x : Nat) (hl : l.length ≤ 1048576) : Ev (fun k => spec_Unwaves.l0 k l x 0) (l.map (quot x)) := by
  have := count (fun k i (s : List S42) => spec_Unwaves.l0 k s x i) l.length (fun j => mixed (l.map (quot x)) l j) (l.map (quot x)) ?_ ?_ 0 (by omega)
  · simpa [mixed_zero] using this
  · intro j hj
    refine ⟨0, fun k _ => ?_⟩
    have hL : (mixed (l.map (quot x)) l j).length = l.length := by rw [mixed_length _ _ _ (by simp)]; simp
    simp only [spec_Unwaves.l0]
    rw [if_pos (by omega), if_pos (by omega), up1 (by omega), Int.toNat_natCast, set_quot l x j hj]
  · refine Ev_succ (fun k => ?_)
    have hL : (mixed (l.map (quot x)) l l.length).length = l.length := by rw [mixed_length _ _ _ (by simp)]; simp
    have hm := mixed_all (l.map (quot x)) l (by simp)
    rw [List.length_map] at hm
    simp only [spec_Unwaves.l0]
    rw [if_neg (by omega), hm]
theorem un_impl (row l : List S42) (hl : l.length ≤ 1048576) : Ev (fun k => impl_Unwaves.l0 k row l (l.length : Int) 0) (l.map (quot (foi (row.length : Int)))) := by
  have := count (fun k i (s : List S42) => impl_Unwaves.l0 k row s (l.length : Int) i) l.length (fun j => mixed (l.map (quot (foi (row.length : Int)))) l j) (l.map (quot (foi (row.length : Int)))) ?_ ?_ 0 (by omega)
  · simpa [mixed_zero] using this
  · intro j hj
    refine ⟨0, fun k _ => ?_⟩
    have hL : (mixed (l.map (quot (foi (row.length : Int)))) l j).length = l.length := by rw [mixed_length _ _ _ (by simp)]; simp
    simp only [impl_Unwaves.l0]
    rw [if_pos (by omega), if_pos (by omega), if_pos (by omega), up1 (by omega), Int.toNat_natCast, set_quot l _ j hj]
  · refine Ev_succ (fun k => ?_)
    have hm := mixed_all (l.map (quot (foi (row.length : Int)))) l (by simp)
    rw [List.length_map] at hm
    simp only [impl_Unwaves.l0]
    rw [if_neg (by omega), hm]
theorem unwaves_both (l : List S42) : ∃ R : List S42, R.length ≤ 1048576 ∧ Ev (fun k => spec_Unwaves.f k l) R ∧ Ev (fun k => impl_Unwaves.f k l sinT) R := by
  simp only [spec_Unwaves.f, impl_Unwaves.f, long_spec, long_impl]
  cases h : longOk (l.length : Int) with
  | false => exact ⟨[], by simp, Ev.bind (Ev.now _) (evNeg (by decide) (Ev.now _)), Ev.bind (Ev.now _) (evNeg (by decide) (Ev.now _))⟩
  | true =>
    have hl := long_le h
    have hw : (rowW 1 l l.length 0).length ≤ 1048576 := by rw [rowW_length]; omega
    exact ⟨_, by rw [List.length_map]; exact hw, Ev.bind (Ev.now _) (evPos rfl (Ev.bind (turned_spec 1 l hl) (un_spec _ _ hw))), Ev.bind (Ev.now _) (evPos rfl (Ev.bind (turned_impl 1 l hl) (un_impl l _ hw)))⟩

theorem FnExactUnwaves : laws_FnExactUnwaves.Pure := by
  intro l hl0
  refine Ev.rounds ?_
  show Ev (fun k => laws_FnExactUnwaves.f k l sinT) true
  simp only [laws_FnExactUnwaves.f]
  by_cases hl : l.length ≤ 1048576
  rotate_left
  · exact Ev.bind (szPairS_big l hl0 hl) (evPos (by decide) (Ev.now _))
  have hc : (l.map convPair).length ≤ 1048576 := by rw [List.length_map]; exact hl
  obtain ⟨R, hR, hs, hi⟩ := unwaves_both (l.map convPair)
  refine Ev.bind (szPairS_ok _ hl) ?_
  refine evNeg (by first | omega | (simp; omega) | simp) ?_
  refine Ev.bind (toPairS_ev _ (by first | assumption | omega | (simp; omega))) ?_
  refine Ev.bind hs ?_
  refine Ev.bind (toPairS_ev _ (by first | assumption | omega | (simp; omega))) ?_
  refine Ev.bind hi ?_
  refine Ev.bind (eqPairS_ev _ (by first | assumption | omega | (simp; omega))) ?_
  refine evPos (by first | rfl | trivial | simp) ?_
  refine Ev.bind (toPairS_ev _ (by first | assumption | omega | (simp; omega))) ?_
  refine Ev.bind (eqPairS_ev _ (by first | assumption | omega | (simp; omega))) ?_
  refine evPos (by first | rfl | trivial | simp) ?_
  first | refine Ev.bind (markPairS_ev _ 1 (by first | omega | (simp; omega)) (by omega)) ?_ | refine Ev.bind (markPairS_ev _ _ (by first | omega | (simp; omega)) (by omega)) ?_
  refine evNeg (by first | omega | (simp; omega) | simp) ?_
  refine Ev.bind (eqPairS_ev _ (by first | assumption | omega | (simp; omega))) ?_
  refine Ev.step (fun k => laws_FnExactUnwaves.j0.eq_2 _ _ _ _ _ k) ?_
  refine evNeg (by simp) ?_
  first | refine Ev.bind (markPairS_ev _ 1 (by first | omega | (simp; omega)) (by omega)) ?_ | refine Ev.bind (markPairS_ev _ _ (by first | omega | (simp; omega)) (by omega)) ?_
  refine Ev.bind (heldPairS_ev _ 1 (by omega) (by omega)) ?_
  refine evNeg (by first | omega | (simp; omega) | simp) ?_
  refine evPos (by first | rfl | trivial | simp) ?_
  refine Ev.bind (toPairS_ev _ (by first | assumption | omega | (simp; omega))) ?_
  refine Ev.bind hi ?_
  refine Ev.bind (eqPairS_ev _ (by first | assumption | omega | (simp; omega))) ?_
  refine evPos (by first | rfl | trivial | simp) ?_
  refine Ev.bind (heldPairS_ev _ 1 (by omega) (by omega)) ?_
  refine evNeg (by first | omega | (simp; omega) | simp) ?_
  refine evPos (by first | rfl | trivial | simp) ?_
  exact Ev.now _
end Go.Proofs.YtpileeenoocjpaaDoor.Pure
