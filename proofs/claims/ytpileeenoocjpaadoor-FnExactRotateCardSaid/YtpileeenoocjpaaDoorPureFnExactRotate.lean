/- The plain statement of the law FnExactRotate: program and reference turn the parts of every tide alike; no condition. -/
import Derived.Test.YtpileeenoocjpaaDoorTCon
import Derived.Test.YtpileeenoocjpaaDoorQx11
import Derived.Test.YtpileeenoocjpaaDoorQx5
import Derived.Test.YtpileeenoocjpaaDoorQx9
set_option linter.unusedVariables false
set_option linter.unusedSimpArgs false
namespace Go.Proofs.YtpileeenoocjpaaDoor.Pure
open Go.RowKit Go.Proofs.YtpileeenoocjpaaDoor.Q Go.Proofs.YtpileeenoocjpaaDoor.Gen Go.Proofs.YtpileeenoocjpaaDoorW.PrintWords Go.Proofs.YtpileeenoocjpaaDoorW.PrintMore Go.Proofs.YtpileeenoocjpaaDoorW.PrintFlt

def rotC (h : Int) (e : S63) : S63 := ⟨e.f0, ⟨fsub (fmul e.f1.f0 (trn (wrap64 (e.f0 * h))).1) (fmul e.f1.f1 (trn (wrap64 (e.f0 * h))).2), fadd (fmul e.f1.f0 (trn (wrap64 (e.f0 * h))).2) (fmul e.f1.f1 (trn (wrap64 (e.f0 * h))).1)⟩⟩
theorem r_spec (h : Int) (l : List S63) (hl : l.length ≤ 40) : ∀ t i acc, i + t = l.length → acc.length = i → Ev (fun k => spec_Rotate.l0 k l h acc (i : Int)) (acc ++ (l.drop i).map (rotC h)) := by
  intro t
  induction t with
  | zero =>
    intro i s e ha
    refine Ev.step (fun k => spec_Rotate.l0.eq_2 _ _ _ _ k) (evNeg (by omega) ?_)
    rw [List.drop_of_length_le (by omega), List.map_nil, List.append_nil]
    exact Ev.now _
  | succ t ih =>
    intro i s e ha
    have := ih (i + 1) (s ++ [rotC h (rd_T63 l (i : Int))]) (by omega) (by simp [ha])
    rw [List.append_assoc] at this
    refine Ev.step (fun k => spec_Rotate.l0.eq_2 _ _ _ _ k) (evPos (by omega) (evPos (by omega) ?_))
    rw [drop63 l i (by omega), List.map_cons, trn_spec, up1 (by omega)]
    exact Ev.bind (Ev.now _) (Ev.bind (Ev.now _) (evPos (by omega) this))
theorem r_impl (h : Int) (l : List S63) (hl : l.length ≤ 40) : ∀ t i acc, i + t = l.length → acc.length = i → Ev (fun k => impl_Rotate.l0 k h acc l (l.length : Int) (i : Int) sinT) (acc ++ (l.drop i).map (rotC h)) := by
  intro t
  induction t with
  | zero =>
    intro i s e ha
    refine Ev.step (fun k => impl_Rotate.l0.eq_2 _ _ _ _ _ _ k) (evNeg (by omega) ?_)
    rw [List.drop_of_length_le (by omega), List.map_nil, List.append_nil]
    exact Ev.now _
  | succ t ih =>
    intro i s e ha
    have := ih (i + 1) (s ++ [rotC h (rd_T63 l (i : Int))]) (by omega) (by simp [ha])
    rw [List.append_assoc] at this
    refine Ev.step (fun k => impl_Rotate.l0.eq_2 _ _ _ _ _ _ k) (evPos (by omega) (evPos (by omega) (evPos (by omega) ?_)))
    rw [drop63 l i (by omega), List.map_cons, trn_impl, up1 (by omega)]
    exact Ev.bind (Ev.now _) (Ev.bind (Ev.now _) (evPos (by omega) this))
theorem rotate_both (l : List S63) (h : Int) : ∃ R : List S63, R.length ≤ 1048576 ∧ Ev (fun k => spec_Rotate.f k l h) R ∧ Ev (fun k => impl_Rotate.f k l h sinT) R := by
  have noS : Ev (fun k => spec_Rotate.j0 k l h [] true) [] := Ev.step (fun k => spec_Rotate.j0.eq_2 _ _ _ _ k) (evPos rfl (Ev.now _))
  have noI : Ev (fun k => impl_Rotate.j0 k l h true sinT) [] := Ev.step (fun k => impl_Rotate.j0.eq_2 _ _ _ _ k) (evPos rfl (Ev.now _))
  simp only [spec_Rotate.f, impl_Rotate.f, hour_spec, hour_impl]
  by_cases c : partsOk l = true
  rotate_left
  · exact ⟨[], by simp, Ev.bind (Ev.now _) (Ev.bind (ok_spec l) (evNeg c noS)), Ev.bind (ok_impl l) (evNeg c noI)⟩
  cases d : inS h (-1000000) 1000000 with
  | false => exact ⟨[], by simp, Ev.bind (Ev.now _) (Ev.bind (ok_spec l) (evPos c (Ev.bind (Ev.now _) noS))), Ev.bind (ok_impl l) (evPos c (Ev.bind (Ev.now _) noI))⟩
  | true =>
    have hl := partsOk_len c
    have a := r_spec h l hl l.length 0 [] (by omega) rfl
    have b := r_impl h l hl l.length 0 [] (by omega) rfl
    rw [List.nil_append, List.drop_zero] at a b
    exact ⟨_, by rw [List.length_map]; omega, Ev.bind (Ev.now _) (Ev.bind (ok_spec l) (evPos c (Ev.bind (Ev.now _) (Ev.step (fun k => spec_Rotate.j0.eq_2 _ _ _ _ k) (evNeg (by decide) a))))), Ev.bind (ok_impl l) (evPos c (Ev.bind (Ev.now _) (Ev.step (fun k => impl_Rotate.j0.eq_2 _ _ _ _ k) (evNeg (by decide) b))))⟩

theorem FnExactRotate : laws_FnExactRotate.Pure := by
  intro l h hl0 _
  refine Ev.rounds ?_
  show Ev (fun k => laws_FnExactRotate.f k l h sinT) true
  simp only [laws_FnExactRotate.f]
  by_cases hl : l.length ≤ 1048576
  rotate_left
  · exact Ev.bind (szConstituentS_big l hl0 hl) (evPos (by decide) (Ev.now _))
  have hc : (l.map convC).length ≤ 1048576 := by rw [List.length_map]; exact hl
  obtain ⟨R, hR, hs, hi⟩ := rotate_both (l.map convC) h
  refine Ev.bind (szConstituentS_ok _ hl) ?_
  refine evNeg (by first | omega | (simp; omega) | simp) ?_
  refine Ev.bind (toConstituentS_ev _ (by first | assumption | omega | (simp; omega))) ?_
  refine Ev.bind hs ?_
  refine Ev.bind (toConstituentS_ev _ (by first | assumption | omega | (simp; omega))) ?_
  refine Ev.bind hi ?_
  refine Ev.bind (eqConstituentS_ev _ (by first | assumption | omega | (simp; omega))) ?_
  refine evPos (by first | rfl | trivial | simp) ?_
  refine Ev.bind (toConstituentS_ev _ (by first | assumption | omega | (simp; omega))) ?_
  refine Ev.bind (eqConstituentS_ev _ (by first | assumption | omega | (simp; omega))) ?_
  refine evPos (by first | rfl | trivial | simp) ?_
  first | refine Ev.bind (markConstituentS_ev _ 1 (by first | omega | (simp; omega)) (by omega)) ?_ | refine Ev.bind (markConstituentS_ev _ _ (by first | omega | (simp; omega)) (by omega)) ?_
  refine evNeg (by first | omega | (simp; omega) | simp) ?_
  refine Ev.bind (eqConstituentS_ev _ (by first | assumption | omega | (simp; omega))) ?_
  refine Ev.step (fun k => laws_FnExactRotate.j0.eq_2 _ _ _ _ _ _ k) ?_
  refine evNeg (by simp) ?_
  first | refine Ev.bind (markConstituentS_ev _ 1 (by first | omega | (simp; omega)) (by omega)) ?_ | refine Ev.bind (markConstituentS_ev _ _ (by first | omega | (simp; omega)) (by omega)) ?_
  refine Ev.bind (heldConstituentS_ev _ 1 (by omega) (by omega)) ?_
  refine evNeg (by first | omega | (simp; omega) | simp) ?_
  refine evPos (by first | rfl | trivial | simp) ?_
  refine Ev.bind (toConstituentS_ev _ (by first | assumption | omega | (simp; omega))) ?_
  refine Ev.bind hi ?_
  refine Ev.bind (eqConstituentS_ev _ (by first | assumption | omega | (simp; omega))) ?_
  refine evPos (by first | rfl | trivial | simp) ?_
  refine Ev.bind (heldConstituentS_ev _ 1 (by omega) (by omega)) ?_
  refine evNeg (by first | omega | (simp; omega) | simp) ?_
  refine evPos (by first | rfl | trivial | simp) ?_
  exact Ev.now _
end Go.Proofs.YtpileeenoocjpaaDoor.Pure
