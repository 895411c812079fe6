/- Ascents: program and reference take the same lists of levels for ascents; for lists of at most 2^20 levels. -/
import Derived.Test.YtaophbkedbphnaaTLev
import Derived.Test.YtaophbkedbphnaaQx12
import Derived.Test.YtaophbkedbphnaaQx13
import Derived.Test.YtaophbkedbphnaaQx14
import Derived.Test.YtaophbkedbphnaaQx15
import Derived.Test.YtaophbkedbphnaaQx2
import Derived.Test.YtaophbkedbphnaaQx3
import Derived.Test.YtaophbkedbphnaaQx4
import Derived.Test.YtaophbkedbphnaaQx8
import Derived.Test.YtaophbkedbphnaaQx9
set_option linter.unusedVariables false
set_option linter.unusedSimpArgs false
namespace Go.Proofs.Ytaophbkedbphnaa.Gen
open Go.RowKit Go.Proofs.Ytaophbkedbphnaa.Q Go.Proofs.YtaophbkedbphnaaW.PrintWords Go.Proofs.YtaophbkedbphnaaW.PrintMore Go.Proofs.YtaophbkedbphnaaW.PrintFlt

theorem l2In_eq (a b c : Int) : spec_l2In.f a b c = some (decide (b ≤ a) && decide (a ≤ c)) := by
  unfold spec_l2In.f; by_cases h : a ≥ b <;> simp [h, show b ≤ a ↔ a ≥ b from Iff.rfl]
theorem in_eq (a b c : Int) : impl_in.f a b c = some (decide (b ≤ a) && decide (a ≤ c)) := by
  unfold impl_in.f; by_cases h : a ≥ b <;> simp [h, show b ≤ a ↔ a ≥ b from Iff.rfl]
theorem known_spec (x : Nat) : spec_Known.f x = some (fin x) := by
  unfold spec_Known.f
  rw [known1]
theorem known_impl (x : Nat) : impl_Known.f x = some (fin x) := by
  unfold impl_Known.f impl_missing.f math_IsInf.f math_Abs.f
  rw [← known2 x, Option.bind_some, fne_self]
  cases h : isn x with
  | true => rfl
  | false => rfl

def prA (l : List S62) (i : Nat) : Int := (l.getD i z62).f0
def tmA (l : List S62) (i : Nat) : Nat := (l.getD i z62).f1
def stepOk (l : List S62) (j : Nat) : Bool :=
  (decide (1 ≤ prA l j) && decide (prA l j ≤ 12000)) && (decide (j = 0) || decide (prA l j < prA l (j - 1))) && fin (tmA l j) && !flt (tmA l j) 13864612927836782592 && !fgt (tmA l j) 4641240890982006784
def ascFrom (l : List S62) : Nat → Nat → Bool
  | 0, _ => true
  | t + 1, j => stepOk l j && ascFrom l t (j + 1)
def ascOk (l : List S62) : Bool := decide (2 ≤ l.length) && decide (l.length ≤ 400) && ascFrom l l.length 0

theorem asc_spec (l : List S62) (hl : l.length ≤ 1048576) : ∀ t j, j + t = l.length → Ev (fun k => spec_AscentOk.l0 k l (j : Int)) (ascFrom l t j) := by
  intro t
  induction t with
  | zero =>
    intro j h
    refine Ev_succ fun k => ?_
    simp only [spec_AscentOk.l0]
    rw [if_neg (by omega)]
    rfl
  | succ t ih =>
    intro j h
    have IH := ih (j + 1) (by omega)
    have J : ∀ b, Ev (fun k => spec_AscentOk.j2 k l (j : Int) b) (!b && ascFrom l t (j + 1)) := by
      intro b
      refine Ev.step (fun k => spec_AscentOk.j2.eq_2 _ _ _ k) ?_
      cases b with
      | true => exact evPos rfl (Ev.now _)
      | false =>
        refine evNeg (by decide) ?_
        rw [up1 (by omega)]
        simpa using IH
    have R : ∀ b, b = !stepOk l j → Ev (fun k => spec_AscentOk.j2 k l (j : Int) b) (ascFrom l (t + 1) j) := by
      rintro b rfl
      have := J (!stepOk l j)
      rw [Bool.not_not] at this
      exact this
    refine Ev.step (fun k => spec_AscentOk.l0.eq_2 _ _ k) ?_
    simp only [l2In_eq, known_spec, Option.bind_some, rdn62]
    refine evPos (by omega) (evPos (by omega) ?_)
    have T : (decide (1 ≤ prA l j) && decide (prA l j ≤ 12000)) = true → (decide (j = 0) || decide (prA l j < prA l (j - 1))) = true → Ev (fun k => if fin (tmA l j) = true then (if flt (tmA l j) 13864612927836782592 = true then spec_AscentOk.j2 k l (j : Int) true else spec_AscentOk.j2 k l (j : Int) (fgt (tmA l j) 4641240890982006784)) else spec_AscentOk.j2 k l (j : Int) true) (ascFrom l (t + 1) j) := by
      intro d1 d2
      by_cases c4 : fin (tmA l j) = true
      · refine evPos c4 ?_
        by_cases c5 : flt (tmA l j) 13864612927836782592 = true
        · exact evPos c5 (R _ (by unfold stepOk; rw [d1, d2, c4, c5]; rfl))
        · refine evNeg c5 (R _ ?_)
          rw [Bool.not_eq_true] at c5
          unfold stepOk
          rw [d1, d2, c4, c5]
          cases fgt (tmA l j) 4641240890982006784 <;> rfl
      · refine evNeg c4 (R _ ?_)
        rw [Bool.not_eq_true] at c4
        unfold stepOk
        rw [d1, d2, c4]
        rfl
    by_cases c1 : (decide (1 ≤ prA l j) && decide (prA l j ≤ 12000)) = true
    · refine evPos c1 ?_
      by_cases c2 : (j : Int) > 0
      · refine evPos c2 ?_
        have e : wrap64 ((j : Int) - 1) = ((j - 1 : Nat) : Int) := by rw [w64 (by omega) (by omega)]; omega
        simp only [e, rdn62]
        refine evPos (by omega) (evPos (by omega) ?_)
        by_cases c3 : prA l j ≥ prA l (j - 1)
        · refine evPos c3 (R _ ?_)
          have hd : (decide (j = 0) || decide (prA l j < prA l (j - 1))) = false := by simp; omega
          unfold stepOk
          rw [c1, hd]
          rfl
        · exact evNeg c3 (T c1 (by simp; omega))
      · exact evNeg c2 (T c1 (by simp; omega))
    · refine evNeg c1 (R _ ?_)
      rw [Bool.not_eq_true] at c1
      unfold stepOk
      rw [c1]
      rfl

theorem asc_impl (l : List S62) (hl : l.length ≤ 1048576) : ∀ t j, j + t = l.length → Ev (fun k => impl_AscentOk.l0 k l l (l.length : Int) (j : Int)) (ascFrom l t j) := by
  intro t
  induction t with
  | zero =>
    intro j h
    refine Ev_succ fun k => ?_
    simp only [impl_AscentOk.l0]
    rw [if_neg (by omega)]
    rfl
  | succ t ih =>
    intro j h
    have IH := ih (j + 1) (by omega)
    have J : ∀ b, Ev (fun k => impl_AscentOk.j1 k l l (l.length : Int) (j : Int) b) (!b && ascFrom l t (j + 1)) := by
      intro b
      refine Ev.step (fun k => impl_AscentOk.j1.eq_2 _ _ _ _ _ k) ?_
      cases b with
      | true => exact evPos rfl (Ev.now _)
      | false =>
        refine evNeg (by decide) ?_
        rw [up1 (by omega)]
        simpa using IH
    have R : ∀ b, b = !stepOk l j → Ev (fun k => impl_AscentOk.j1 k l l (l.length : Int) (j : Int) b) (ascFrom l (t + 1) j) := by
      rintro b rfl
      have := J (!stepOk l j)
      rw [Bool.not_not] at this
      exact this
    refine Ev.step (fun k => impl_AscentOk.l0.eq_2 _ _ _ _ k) ?_
    simp only [in_eq, known_impl, Option.bind_some, rdn62]
    refine evPos (by omega) (evPos (by omega) (evPos (by omega) ?_))
    have T : (decide (1 ≤ prA l j) && decide (prA l j ≤ 12000)) = true → (decide (j = 0) || decide (prA l j < prA l (j - 1))) = true → Ev (fun k => if fin (tmA l j) = true then (if flt (tmA l j) 13864612927836782592 = true then impl_AscentOk.j1 k l l (l.length : Int) (j : Int) true else impl_AscentOk.j1 k l l (l.length : Int) (j : Int) (fgt (tmA l j) 4641240890982006784)) else impl_AscentOk.j1 k l l (l.length : Int) (j : Int) true) (ascFrom l (t + 1) j) := by
      intro d1 d2
      by_cases c4 : fin (tmA l j) = true
      · refine evPos c4 ?_
        by_cases c5 : flt (tmA l j) 13864612927836782592 = true
        · exact evPos c5 (R _ (by unfold stepOk; rw [d1, d2, c4, c5]; rfl))
        · refine evNeg c5 (R _ ?_)
          rw [Bool.not_eq_true] at c5
          unfold stepOk
          rw [d1, d2, c4, c5]
          cases fgt (tmA l j) 4641240890982006784 <;> rfl
      · refine evNeg c4 (R _ ?_)
        rw [Bool.not_eq_true] at c4
        unfold stepOk
        rw [d1, d2, c4]
        rfl
    by_cases c1 : (decide (1 ≤ prA l j) && decide (prA l j ≤ 12000)) = true
    · refine evPos c1 ?_
      by_cases c2 : (j : Int) > 0
      · refine evPos c2 ?_
        have e : wrap64 ((j : Int) - 1) = ((j - 1 : Nat) : Int) := by rw [w64 (by omega) (by omega)]; omega
        simp only [e, rdn62]
        refine evPos (by omega) (evPos (by omega) ?_)
        by_cases c3 : prA l j ≥ prA l (j - 1)
        · refine evPos c3 (R _ ?_)
          have hd : (decide (j = 0) || decide (prA l j < prA l (j - 1))) = false := by simp; omega
          unfold stepOk
          rw [c1, hd]
          rfl
        · exact evNeg c3 (T c1 (by simp; omega))
      · exact evNeg c2 (T c1 (by simp; omega))
    · refine evNeg c1 (R _ ?_)
      rw [Bool.not_eq_true] at c1
      unfold stepOk
      rw [c1]
      rfl

theorem ascent_spec (l : List S62) (hl : l.length ≤ 1048576) : Ev (fun k => spec_AscentOk.f k l) (ascOk l) := by
  have J : ∀ b, b = !(decide (2 ≤ l.length) && decide (l.length ≤ 400)) → Ev (fun k => spec_AscentOk.j0 k l b) (ascOk l) := by
    rintro b rfl
    refine Ev.step (fun k => spec_AscentOk.j0.eq_2 _ _ k) ?_
    have h0 := asc_spec l hl l.length 0 (by omega)
    unfold ascOk
    cases h : (decide (2 ≤ l.length) && decide (l.length ≤ 400)) with
    | true => exact evNeg (by decide) (by simpa using h0)
    | false => exact evPos rfl (by simpa using Ev.now false)
  simp only [spec_AscentOk.f]
  by_cases c : (l.length : Int) < 2
  · exact evPos c (J _ (by simp; omega))
  · refine evNeg c (J _ ?_)
    have h1 : decide (2 ≤ l.length) = true := by simp; omega
    rw [h1, Bool.true_and]
    by_cases h : l.length ≤ 400
    · simp [h]; omega
    · simp [h]; omega
theorem ascent_impl (l : List S62) (hl : l.length ≤ 1048576) : Ev (fun k => impl_AscentOk.f k l) (ascOk l) := by
  simp only [impl_AscentOk.f, in_eq, Option.bind_some]
  have h0 := asc_impl l hl l.length 0 (by omega)
  by_cases h : 2 ≤ l.length ∧ l.length ≤ 400
  · refine evPos (by simp; omega) ?_
    have : ascOk l = ascFrom l l.length 0 := by simp [ascOk, h.1, h.2]
    rw [this]
    simpa using h0
  · refine evNeg (by simp; omega) ?_
    have : ascOk l = false := by
      unfold ascOk
      have : (decide (2 ≤ l.length) && decide (l.length ≤ 400)) = false := by simp; omega
      rw [this]
      rfl
    rw [this]
    exact Ev.now _
theorem ascOk_len {l : List S62} (h : ascOk l = true) : 2 ≤ l.length ∧ l.length ≤ 400 := by
  unfold ascOk at h
  simp only [Bool.and_eq_true, decide_eq_true_eq] at h
  exact h.1
theorem ascFrom_at {l : List S62} : ∀ t j, ascFrom l t j = true → ∀ i, j ≤ i → i < j + t → stepOk l i = true := by
  intro t
  induction t with
  | zero => intro j _ i h1 h2; omega
  | succ t ih =>
    intro j h i h1 h2
    unfold ascFrom at h
    rw [Bool.and_eq_true] at h
    by_cases hi : i = j
    · rw [hi]; exact h.1
    · exact ih (j + 1) h.2 i (by omega) (by omega)
theorem ascOk_at {l : List S62} (h : ascOk l = true) (i : Nat) (hi : i < l.length) : stepOk l i = true := by
  unfold ascOk at h
  rw [Bool.and_eq_true] at h
  exact ascFrom_at _ _ h.2 i (by omega) (by omega)
end Go.Proofs.Ytaophbkedbphnaa.Gen
