/- Means of winds: what the program reckons of every list of winds; no condition. -/
import Derived.Test.YtpileeenoocjpaaDoorTurnL
import Derived.Test.YtpileeenoocjpaaDoorInS
import Derived.Test.YtpileeenoocjpaaDoorQx1
import Derived.Test.YtpileeenoocjpaaDoorQx2
import Derived.Test.YtpileeenoocjpaaDoorQx3
import Derived.Test.YtpileeenoocjpaaDoorQx4
import Derived.Test.YtpileeenoocjpaaDoorQx7
set_option linter.unusedVariables false
set_option linter.unusedSimpArgs false
namespace Go.Proofs.YtpileeenoocjpaaDoor.Gen
open Go.RowKit Go.Proofs.YtpileeenoocjpaaDoor.Q Go.Proofs.YtpileeenoocjpaaDoorW.PrintWords Go.Proofs.YtpileeenoocjpaaDoorW.PrintMore Go.Proofs.YtpileeenoocjpaaDoorW.PrintFlt

theorem known_spec (x : Nat) : spec_Known.f x = some (fin x) := by
  unfold spec_Known.f
  rw [known1]
theorem known_impl (x : Nat) : impl_Known.f x = some (fin x) := by
  unfold impl_Known.f impl_missing.f math_IsInf.f math_Abs.f
  rw [← known2 x, Option.bind_some, fne_self]
  by_cases h : isn x = true
  · simp [h]
  · simp [h]
theorem none_q : spec_l1None.f = some qnan := by decide +kernel
theorem nan_q : impl_nan.f = some qnan := rfl
def wOk (a : Int) (x : Nat) : Bool := inS a 0 36 && (fin x && ((fgt x 0 || feq x 0) && (feq x 0 == (a == 0))))
theorem wOk_spec (a : Int) (x : Nat) : spec_l3WindOk.f a x = some (wOk a x) := by
  unfold spec_l3WindOk.f wOk
  rw [l2In_s, Option.bind_some, known_spec, Option.bind_some]
  cases inS a 0 36 <;> cases fin x <;> cases (fgt x 0 || feq x 0) <;> rfl
theorem wOk_impl (a : Int) (x : Nat) : impl_windOk.f a x = some (wOk a x) := by
  unfold impl_windOk.f wOk
  rw [in_s, Option.bind_some, known_impl, Option.bind_some]
  cases inS a 0 36 <;> cases fin x <;> cases (fgt x 0 || feq x 0) <;> rfl
def prW (a : Int) (x : Nat) : Nat × Nat := (spec_WindPair.f a x).getD (0, 0)
theorem pr_spec (a : Int) (x : Nat) : spec_WindPair.f a x = some (prW a x) := by
  unfold prW
  obtain ⟨c, s, e, _⟩ := turn_both a
  unfold spec_WindPair.f
  rw [wOk_spec, Option.bind_some, e, none_q]
  cases wOk a x <;> rfl
theorem pr_impl (a : Int) (x : Nat) : impl_WindPair.f a x sinT = some (prW a x) := by
  rw [← pr_spec]
  obtain ⟨c, s, e1, e2, _⟩ := turn_both a
  unfold spec_WindPair.f impl_WindPair.f
  rw [wOk_spec, wOk_impl, Option.bind_some, Option.bind_some, e1, e2, none_q, nan_q]
def stepM (s : Int × Nat × Nat) (e : S54) : Int × Nat × Nat := if wOk e.f0 e.f1 = true then (wrap64 (s.1 + 1), fadd s.2.1 (prW e.f0 e.f1).1, fadd s.2.2 (prW e.f0 e.f1).2) else s
def resM (s : Int × Nat × Nat) : Nat × Nat := if s.1 = 0 then (qnan, qnan) else (fdiv s.2.1 (foi s.1), fdiv s.2.2 (foi s.1))
theorem resM_nil (n : Int) (a b : Nat) (h : n = 0) : resM (List.foldl stepM (n, a, b) []) = (qnan, qnan) := if_pos h
theorem resM_num (n : Int) (a b : Nat) (h : ¬ n = 0) : resM (List.foldl stepM (n, a, b) []) = (fdiv a (foi n), fdiv b (foi n)) := if_neg h
theorem drop54 (l : List S54) (i : Nat) (h : i < l.length) : l.drop i = rd_T54 l (i : Int) :: l.drop (i + 1) := by
  rw [List.drop_eq_getElem_cons h]
  simp [rd_T54, h]
theorem impl_loop (l : List S54) (hl : l.length ≤ 1048576) : ∀ t i n a b, i + t = l.length → Ev (fun k => impl_MeanWind.l0 k l n l (l.length : Int) (i : Int) sinT a b) (if l.length ≤ 4000 then resM ((l.drop i).foldl stepM (n, a, b)) else (qnan, qnan)) := by
  intro t
  induction t with
  | zero =>
    intro i n a b h
    have J : ∀ b' : Bool, (b' = true ↔ n = 0 ∨ ¬ l.length ≤ 4000) → Ev (fun k => impl_MeanWind.j1 k n b' a b) (if l.length ≤ 4000 then resM ((l.drop i).foldl stepM (n, a, b)) else (qnan, qnan)) := by
      intro b' hb
      refine Ev.step (fun k => impl_MeanWind.j1.eq_2 _ _ _ _ k) ?_
      rw [List.drop_of_length_le (by omega), nan_q]
      cases b' with
      | true =>
        have h2 := hb.1 rfl
        have e : (if l.length ≤ 4000 then resM (List.foldl stepM (n, a, b) []) else (qnan, qnan)) = (qnan, qnan) := by
          by_cases c : l.length ≤ 4000
          · rw [if_pos c, resM_nil n a b (by omega)]
          · rw [if_neg c]
        rw [e]
        exact evPos rfl (Ev.bind (Ev.now _) (Ev.bind (Ev.now _) (Ev.now _)))
      | false =>
        have h2 : ¬ (n = 0 ∨ ¬ l.length ≤ 4000) := fun h => by have := hb.2 h; cases this
        have e : (if l.length ≤ 4000 then resM (List.foldl stepM (n, a, b) []) else (qnan, qnan)) = (fdiv a (foi n), fdiv b (foi n)) := by
          rw [if_pos (by omega), resM_num n a b (by omega)]
        rw [e]
        exact evNeg (by decide) (Ev.now _)
    refine Ev.step (fun k => impl_MeanWind.l0.eq_2 _ _ _ _ _ _ _ _ k) (evNeg (by omega) ?_)
    by_cases c : n = 0
    · exact evPos c (J true ⟨fun _ => .inl c, fun _ => rfl⟩)
    · exact evNeg c (J _ (by rw [decide_eq_true_eq]; omega))
  | succ t ih =>
    intro i n a b h
    refine Ev.step (fun k => impl_MeanWind.l0.eq_2 _ _ _ _ _ _ _ _ k) (evPos (by omega) (evPos (by omega) (evPos (by omega) ?_)))
    rw [drop54 l i (by omega), List.foldl_cons, wOk_impl, pr_impl, up1 (by omega)]
    generalize rd_T54 l (i : Int) = e
    refine Ev.bind (Ev.now _) ?_
    unfold stepM
    by_cases c : wOk e.f0 e.f1 = true
    · rw [if_pos c]; exact evPos c (Ev.bind (Ev.now _) (Ev.bind (Ev.now _) (ih (i + 1) _ _ _ (by omega))))
    · rw [if_neg c]; exact evNeg c (ih (i + 1) _ _ _ (by omega))
end Go.Proofs.YtpileeenoocjpaaDoor.Gen
