/- The plain statement of the law FnExactHeight: program and reference find the same height of every tide at every hour; no condition. -/
import Derived.Test.YtpileeenoocjpaaDoorTCon
import Derived.Test.YtpileeenoocjpaaDoorQx2
import Derived.Test.YtpileeenoocjpaaDoorQx6
import Derived.Test.YtpileeenoocjpaaDoorQx9
set_option linter.unusedVariables false
set_option linter.unusedSimpArgs false
namespace Go.Proofs.YtpileeenoocjpaaDoor.Pure
open Go.RowKit Go.Proofs.YtpileeenoocjpaaDoor.Q Go.Proofs.YtpileeenoocjpaaDoor.Gen Go.Proofs.YtpileeenoocjpaaDoorW.PrintWords Go.Proofs.YtpileeenoocjpaaDoorW.PrintMore Go.Proofs.YtpileeenoocjpaaDoorW.PrintFlt

def stepH (h : Int) (s : Nat) (e : S63) : Nat := fadd s (fsub (fmul e.f1.f0 (trn (wrap64 (e.f0 * h))).1) (fmul e.f1.f1 (trn (wrap64 (e.f0 * h))).2))
theorem h_spec (h : Int) (l : List S63) (hl : l.length ≤ 40) : ∀ t i s, i + t = l.length → Ev (fun k => spec_Height.l0 k l h s (i : Int)) ((l.drop i).foldl (stepH h) s) := by
  intro t
  induction t with
  | zero =>
    intro i s e
    refine Ev.step (fun k => spec_Height.l0.eq_2 _ _ _ _ k) (evNeg (by omega) ?_)
    rw [List.drop_of_length_le (by omega)]
    exact Ev.now _
  | succ t ih =>
    intro i s e
    refine Ev.step (fun k => spec_Height.l0.eq_2 _ _ _ _ k) (evPos (by omega) (evPos (by omega) ?_))
    rw [drop63 l i (by omega), List.foldl_cons, trn_spec, up1 (by omega)]
    exact Ev.bind (Ev.now _) (Ev.bind (Ev.now _) (ih (i + 1) _ (by omega)))
theorem h_impl (h : Int) (l : List S63) (hl : l.length ≤ 40) : ∀ t i s, i + t = l.length → Ev (fun k => impl_Height.l0 k h s l (l.length : Int) (i : Int) sinT) ((l.drop i).foldl (stepH h) s) := by
  intro t
  induction t with
  | zero =>
    intro i s e
    refine Ev.step (fun k => impl_Height.l0.eq_2 _ _ _ _ _ _ k) (evNeg (by omega) ?_)
    rw [List.drop_of_length_le (by omega)]
    exact Ev.now _
  | succ t ih =>
    intro i s e
    refine Ev.step (fun k => impl_Height.l0.eq_2 _ _ _ _ _ _ k) (evPos (by omega) (evPos (by omega) (evPos (by omega) ?_)))
    rw [drop63 l i (by omega), List.foldl_cons, trn_impl, up1 (by omega)]
    exact Ev.bind (Ev.now _) (Ev.bind (Ev.now _) (ih (i + 1) _ (by omega)))
theorem height_both (l : List S63) (h : Int) : ∃ r, Ev (fun k => spec_Height.f k l h) r ∧ Ev (fun k => impl_Height.f k l h sinT) r := by
  have noS : Ev (fun k => spec_Height.j0 k l h true) qnan := Ev.step (fun k => spec_Height.j0.eq_2 _ _ _ k) (evPos rfl (by rw [none_q]; exact Ev.bind (Ev.now _) (Ev.now _)))
  have noI : Ev (fun k => impl_Height.j0 k l h true sinT) qnan := Ev.step (fun k => impl_Height.j0.eq_2 _ _ _ _ k) (evPos rfl (by rw [nan_q]; exact Ev.bind (Ev.now _) (Ev.now _)))
  simp only [spec_Height.f, impl_Height.f, hour_spec, hour_impl]
  by_cases c : partsOk l = true
  rotate_left
  · exact ⟨qnan, Ev.bind (ok_spec l) (evNeg c noS), Ev.bind (ok_impl l) (evNeg c noI)⟩
  cases d : inS h (-1000000) 1000000 with
  | false => exact ⟨qnan, Ev.bind (ok_spec l) (evPos c (Ev.bind (Ev.now _) noS)), Ev.bind (ok_impl l) (evPos c (Ev.bind (Ev.now _) noI))⟩
  | true =>
    have a := h_spec h l (partsOk_len c) l.length 0 0 (by omega)
    have b := h_impl h l (partsOk_len c) l.length 0 0 (by omega)
    exact ⟨_, Ev.bind (ok_spec l) (evPos c (Ev.bind (Ev.now _) (Ev.step (fun k => spec_Height.j0.eq_2 _ _ _ k) (evNeg (by decide) a)))), Ev.bind (ok_impl l) (evPos c (Ev.bind (Ev.now _) (Ev.step (fun k => impl_Height.j0.eq_2 _ _ _ _ k) (evNeg (by decide) b))))⟩

theorem FnExactHeight : laws_FnExactHeight.Pure := by
  intro l h hl0 _
  refine Ev.rounds ?_
  simp only [laws_FnExactHeight.f]
  by_cases hl : l.length ≤ 1048576
  rotate_left
  · exact Ev.bind (szConstituentS_big l hl0 hl) (evPos (by decide) (Ev.now _))
  obtain ⟨r, hs, hi⟩ := height_both (l.map convC) h
  refine Ev.bind (szConstituentS_ok _ hl) (evNeg (by omega) ?_)
  refine Ev.bind (toConstituentS_ev _ hl) (Ev.bind hs (Ev.bind (toConstituentS_ev _ hl) (Ev.bind hi (Ev.bind (sameFloat_ev r) (evPos rfl ?_)))))
  exact Ev.bind (toConstituentS_ev _ hl) (Ev.bind (eqConstituentS_ev _ (by rw [List.length_map]; omega)) (evPos rfl (Ev.now _)))
end Go.Proofs.YtpileeenoocjpaaDoor.Pure
