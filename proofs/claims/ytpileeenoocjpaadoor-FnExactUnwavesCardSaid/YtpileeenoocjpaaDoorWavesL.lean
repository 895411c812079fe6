/- Waves of a row of pairs: program and reference turn a row alike; no condition. -/
import Derived.Test.YtpileeenoocjpaaDoorTurnL
import Derived.Test.YtpileeenoocjpaaDoorTWv
import Derived.Test.YtpileeenoocjpaaDoorQx10
import Derived.Test.YtpileeenoocjpaaDoorQx3
import Derived.Test.YtpileeenoocjpaaDoorQx5
import Derived.Test.YtpileeenoocjpaaDoorQx7
set_option linter.unusedVariables false
set_option linter.unusedSimpArgs false
namespace Go.Proofs.YtpileeenoocjpaaDoor.Gen
open Go.RowKit Go.Proofs.YtpileeenoocjpaaDoor.Q Go.Proofs.YtpileeenoocjpaaDoorW.PrintWords Go.Proofs.YtpileeenoocjpaaDoorW.PrintMore Go.Proofs.YtpileeenoocjpaaDoorW.PrintFlt

def trn (a : Int) : Nat × Nat := (spec_Turn.f a).getD (0, 0)
theorem trn_spec (a : Int) : spec_Turn.f a = some (trn a) := by
  obtain ⟨c, s, e, _⟩ := turn_both a
  unfold trn
  rw [e]
  rfl
theorem trn_impl (a : Int) : impl_Turn.f a sinT = some (trn a) := by
  obtain ⟨c, s, e, e2, _⟩ := turn_both a
  unfold trn
  rw [e, e2]
  rfl
theorem drop42 (l : List S42) (i : Nat) (h : i < l.length) : l.drop i = rd_T42 l (i : Int) :: l.drop (i + 1) := by
  rw [List.drop_eq_getElem_cons h]
  simp [rd_T42, h]
/-- One place's sum, from element j on. -/
def sumW (d n : Int) (k : Int) : Nat → List S42 → Nat → Nat → Nat × Nat
  | _, [], a, b => (a, b)
  | j, e :: r, a, b => sumW d n k (j + 1) r (fadd a (fsub (fmul e.f0 (trn (wrap64 (wrap64 (wrap64 (d * wrap64 (36 / n)) * (j : Int)) * k))).1) (fmul e.f1 (trn (wrap64 (wrap64 (wrap64 (d * wrap64 (36 / n)) * (j : Int)) * k))).2))) (fadd b (fadd (fmul e.f0 (trn (wrap64 (wrap64 (wrap64 (d * wrap64 (36 / n)) * (j : Int)) * k))).2) (fmul e.f1 (trn (wrap64 (wrap64 (wrap64 (d * wrap64 (36 / n)) * (j : Int)) * k))).1)))
def rowW (d : Int) (l : List S42) : Nat → Nat → List S42
  | 0, _ => []
  | t + 1, k => ⟨(sumW d (l.length : Int) (k : Int) 0 l 0 0).1, (sumW d (l.length : Int) (k : Int) 0 l 0 0).2⟩ :: rowW d l t (k + 1)
theorem rowW_length (d : Int) (l : List S42) : ∀ t k, (rowW d l t k).length = t := by
  intro t
  induction t with
  | zero => intro k; rfl
  | succ t ih => intro k; simp [rowW, ih]
theorem w_spec1 (d : Int) (l : List S42) (hl : l.length ≤ 36) (k : Nat) (acc : List S42) (r : List S42) (ha : acc.length ≤ 36)
    (next : ∀ p : Nat × Nat, p = sumW d (l.length : Int) (k : Int) 0 l 0 0 → Ev (fun q => spec_l16Turned.l0 q l d (acc ++ [⟨p.1, p.2⟩]) (l.length : Int) (wrap64 ((k : Int) + 1))) r) :
    ∀ t j a b, j + t = l.length → sumW d (l.length : Int) (k : Int) j (l.drop j) a b = sumW d (l.length : Int) (k : Int) 0 l 0 0 → Ev (fun q => spec_l16Turned.l1 q l d acc (l.length : Int) (k : Int) (j : Int) a b) r := by
  intro t
  induction t with
  | zero =>
    intro j a b h hs
    rw [List.drop_of_length_le (by omega), sumW] at hs
    exact Ev.step (fun q => spec_l16Turned.l1.eq_2 _ _ _ _ _ _ _ _ q) (evNeg (by omega) (evPos (by omega) (next (a, b) hs)))
  | succ t ih =>
    intro j a b h hs
    rw [drop42 l j (by omega), sumW] at hs
    refine Ev.step (fun q => spec_l16Turned.l1.eq_2 _ _ _ _ _ _ _ _ q) (evPos (by omega) (evPos (by omega) (evPos (by omega) (evNeg (by omega) ?_))))
    rw [trn_spec, up1 (by omega)]
    exact Ev.bind (Ev.now _) (Ev.bind (Ev.now _) (Ev.bind (Ev.now _) (ih (j + 1) _ _ (by omega) hs)))
theorem w_spec0 (d : Int) (l : List S42) (hl : l.length ≤ 36) : ∀ t k acc, k + t = l.length → acc.length = k → Ev (fun q => spec_l16Turned.l0 q l d acc (l.length : Int) (k : Int)) (acc ++ rowW d l t k) := by
  intro t
  induction t with
  | zero =>
    intro k acc h ha
    refine Ev.step (fun q => spec_l16Turned.l0.eq_2 _ _ _ _ _ q) (evNeg (by omega) ?_)
    rw [rowW, List.append_nil]
    exact Ev.now _
  | succ t ih =>
    intro k acc h ha
    refine Ev.step (fun q => spec_l16Turned.l0.eq_2 _ _ _ _ _ q) (evPos (by omega) ?_)
    refine w_spec1 d l hl k acc _ (by omega) (fun p hp => ?_) l.length 0 0 0 (by omega) (by rw [List.drop_zero])
    have := ih (k + 1) (acc ++ [⟨p.1, p.2⟩]) (by omega) (by simp [ha])
    rw [List.append_assoc, hp] at this
    rw [up1 (by omega), hp]
    exact this
theorem w_impl1 (d : Int) (l : List S42) (hl : l.length ≤ 36) (k : Nat) (acc : List S42) (r : List S42) (ha : acc.length ≤ 36)
    (next : ∀ p : Nat × Nat, p = sumW d (l.length : Int) (k : Int) 0 l 0 0 → Ev (fun q => impl_waves.l0 q l d (l.length : Int) (acc ++ [⟨p.1, p.2⟩]) (wrap64 ((k : Int) + 1)) sinT) r) :
    ∀ t j a b, j + t = l.length → sumW d (l.length : Int) (k : Int) j (l.drop j) a b = sumW d (l.length : Int) (k : Int) 0 l 0 0 → Ev (fun q => impl_waves.l1 q l d (l.length : Int) acc (k : Int) (j : Int) sinT a b) r := by
  intro t
  induction t with
  | zero =>
    intro j a b h hs
    rw [List.drop_of_length_le (by omega), sumW] at hs
    exact Ev.step (fun q => impl_waves.l1.eq_2 _ _ _ _ _ _ _ _ _ q) (evNeg (by omega) (evPos (by omega) (next (a, b) hs)))
  | succ t ih =>
    intro j a b h hs
    rw [drop42 l j (by omega), sumW] at hs
    refine Ev.step (fun q => impl_waves.l1.eq_2 _ _ _ _ _ _ _ _ _ q) (evPos (by omega) (evPos (by omega) (evPos (by omega) (evNeg (by omega) ?_))))
    rw [trn_impl, up1 (by omega)]
    exact Ev.bind (Ev.now _) (Ev.bind (Ev.now _) (Ev.bind (Ev.now _) (ih (j + 1) _ _ (by omega) hs)))
theorem w_impl0 (d : Int) (l : List S42) (hl : l.length ≤ 36) : ∀ t k acc, k + t = l.length → acc.length = k → Ev (fun q => impl_waves.l0 q l d (l.length : Int) acc (k : Int) sinT) (acc ++ rowW d l t k) := by
  intro t
  induction t with
  | zero =>
    intro k acc h ha
    refine Ev.step (fun q => impl_waves.l0.eq_2 _ _ _ _ _ _ q) (evNeg (by omega) ?_)
    rw [rowW, List.append_nil]
    exact Ev.now _
  | succ t ih =>
    intro k acc h ha
    refine Ev.step (fun q => impl_waves.l0.eq_2 _ _ _ _ _ _ q) (evPos (by omega) ?_)
    refine w_impl1 d l hl k acc _ (by omega) (fun p hp => ?_) l.length 0 0 0 (by omega) (by rw [List.drop_zero])
    have := ih (k + 1) (acc ++ [⟨p.1, p.2⟩]) (by omega) (by simp [ha])
    rw [List.append_assoc, hp] at this
    rw [up1 (by omega), hp]
    exact this
theorem turned_spec (d : Int) (l : List S42) (hl : l.length ≤ 36) : Ev (fun q => spec_l16Turned.f q l d) (rowW d l l.length 0) := by
  have := w_spec0 d l hl l.length 0 [] (by omega) rfl
  rw [List.nil_append] at this
  exact this
theorem turned_impl (d : Int) (l : List S42) (hl : l.length ≤ 36) : Ev (fun q => impl_waves.f q l d sinT) (rowW d l l.length 0) := by
  have := w_impl0 d l hl l.length 0 [] (by omega) rfl
  rw [List.nil_append] at this
  exact this
def longOk (n : Int) : Bool := n == 1 || n == 2 || n == 3 || n == 4 || n == 6 || n == 9 || n == 12 || n == 18 || n == 36
theorem long_spec (n : Int) : spec_l16Long.f n = some (longOk n) := by
  unfold spec_l16Long.f longOk
  repeat' split
  all_goals (simp_all)
theorem long_impl (n : Int) : impl_waveLength.f n = some (longOk n) := by
  rw [← long_spec]
  rfl
theorem long_le {l : List S42} (h : longOk (l.length : Int) = true) : l.length ≤ 36 := by
  simp only [longOk, Bool.or_eq_true, beq_iff_eq] at h
  omega
end Go.Proofs.YtpileeenoocjpaaDoor.Gen
