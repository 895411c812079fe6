/- The plain statement of the law FnExactBias: program and reference find the same second reading to each one, and tell the same mean difference; no condition. -/
import Derived.Test.YtaophbkedbphnabFltL
import Derived.Test.YtaophbkedbphnabTBias
import Derived.Test.YtaophbkedbphnabQx1
import Derived.Test.YtaophbkedbphnabQx10
import Derived.Test.YtaophbkedbphnabQx12
import Derived.Test.YtaophbkedbphnabQx13
import Derived.Test.YtaophbkedbphnabQx14
import Derived.Test.YtaophbkedbphnabQx16
import Derived.Test.YtaophbkedbphnabQx17
import Derived.Test.YtaophbkedbphnabQx18
import Derived.Test.YtaophbkedbphnabQx2
import Derived.Test.YtaophbkedbphnabQx22
import Derived.Test.YtaophbkedbphnabQx3
import Derived.Test.YtaophbkedbphnabQx4
import Derived.Test.YtaophbkedbphnabQx9
set_option linter.unusedVariables false
set_option linter.unusedSimpArgs false
namespace Go.Proofs.Ytaophbkedbphnab.Pure
open Go.RowKit Go.Proofs.Ytaophbkedbphnab.Q Go.Proofs.Ytaophbkedbphnab.Gen Go.Proofs.YtaophbkedbphnabW.PrintWords Go.Proofs.YtaophbkedbphnabW.PrintMore Go.Proofs.YtaophbkedbphnabW.PrintFlt

theorem known_spec (x : Nat) : spec_Known.f x = some (fin x) := by
  unfold spec_Known.f
  rw [known1]
theorem known_impl (x : Nat) : impl_Known.f x = some (fin x) := by
  unfold impl_Known.f impl_missing.f math_IsInf.f math_Abs.f
  rw [← known2 x, Option.bind_some, fne_self]
  by_cases h : isn x = true
  · simp [h]
  · simp [h]

def same (y x : S76) : Bool := if y.f0 = x.f0 then (y.f1 == x.f1) else false
theorem same_impl (y x : S76) : impl_Bias_1.f y.f0 y.f1 y.f2 [(⟨x.f0, x.f1, x.f2⟩ : S76)] = some (same y x) := by
  have r0 : rd_T76 [(⟨x.f0, x.f1, x.f2⟩ : S76)] 0 = ⟨x.f0, x.f1, x.f2⟩ := rfl
  unfold impl_Bias_1.f same
  rw [if_pos (by simp), r0]
  by_cases c : y.f0 = x.f0
  · rw [if_pos c, if_pos c]
  · rw [if_neg c, if_neg c]

def ix : Option Nat → Int
  | some q => (q : Int)
  | none => -1
/-- The first reading from j on that is told of the same place and time. -/
theorem find_both (a b : List S76) (i : Nat) (s : Nat) (n : Int) (ha : a.length ≤ 300) (hb : b.length ≤ 300) (hi : i < a.length) : ∀ t j, j + t = b.length → ∃ m : Option Nat,
    (∀ q, m = some q → q < b.length) ∧
    Ev (fun k => impl_Read_impl_Bias_1.l0 k b (b.length : Int) (j : Int) [(⟨(rd_T76 a (i : Int)).f0, (rd_T76 a (i : Int)).f1, (rd_T76 a (i : Int)).f2⟩ : S76)]) (ix m) ∧
    (m = none → ∀ X, Ev (fun k => spec_Bias.l0 k a b s n ((i + 1 : Nat) : Int)) X → Ev (fun k => spec_Bias.l1 k a b s n (i : Int) (j : Int)) X) ∧
    (∀ q, m = some q → ∀ X, Ev (fun k => if fin (rd_T76 a (i : Int)).f2 = true then (if fin (rd_T76 b (q : Int)).f2 = true then spec_Bias.l0 k a b (fadd s (fsub ((rd_T76 a (i : Int)).f2) ((rd_T76 b (q : Int)).f2))) (wrap64 (n + 1)) ((i + 1 : Nat) : Int) else spec_Bias.l0 k a b s n ((i + 1 : Nat) : Int)) else spec_Bias.l0 k a b s n ((i + 1 : Nat) : Int)) X → Ev (fun k => spec_Bias.l1 k a b s n (i : Int) (j : Int)) X) := by
  have ui := up1 (j := i) (by omega)
  replace ui := Aside0.mk ui
  intro t
  induction t with
  | zero =>
    intro j hj
    refine ⟨none, fun q h => (by cases h), Ev.step (fun k => impl_Read_impl_Bias_1.l0.eq_2 _ _ _ _ k) (evNeg (by omega) (Ev.now _)), fun _ X h => Ev.step (fun k => spec_Bias.l1.eq_2 _ _ _ _ _ _ k) (evNeg (by omega) ?_), fun q h => (by cases h)⟩
    rw [ui.out]
    exact h
  | succ t ih =>
    intro j hj
    obtain ⟨m, h1, h2, h3, h4⟩ := ih (j + 1) (by omega)
    have uj := up1 (j := j) (by omega)
    replace uj := Aside0.mk uj
    have SO : ∀ X, Ev (fun k => spec_Bias.j3 k a b s n (i : Int) (j : Int) (same (rd_T76 b (j : Int)) (rd_T76 a (i : Int)))) X → Ev (fun k => spec_Bias.l1 k a b s n (i : Int) (j : Int)) X := by
      intro X h
      refine Ev.step (fun k => spec_Bias.l1.eq_2 _ _ _ _ _ _ k) (evPos (by omega) (evPos (by omega) (evPos (by omega) (evPos (by omega) ?_))))
      unfold same at h
      by_cases c : (rd_T76 b (j : Int)).f0 = (rd_T76 a (i : Int)).f0
      · rw [if_pos c] at h
        exact evPos c h
      · rw [if_neg c] at h
        exact evNeg c h
    have IO : ∀ X, Ev (fun k => if same (rd_T76 b (j : Int)) (rd_T76 a (i : Int)) = true then some (j : Int) else impl_Read_impl_Bias_1.l0 k b (b.length : Int) ((j + 1 : Nat) : Int) [(⟨(rd_T76 a (i : Int)).f0, (rd_T76 a (i : Int)).f1, (rd_T76 a (i : Int)).f2⟩ : S76)]) X → Ev (fun k => impl_Read_impl_Bias_1.l0 k b (b.length : Int) (j : Int) [(⟨(rd_T76 a (i : Int)).f0, (rd_T76 a (i : Int)).f1, (rd_T76 a (i : Int)).f2⟩ : S76)]) X := by
      intro X h
      refine Ev.step (fun k => impl_Read_impl_Bias_1.l0.eq_2 _ _ _ _ k) (evPos (by omega) (evPos (by omega) (evPos (by omega) ?_)))
      simp only [same_impl, Option.bind_some]
      rw [uj.out]
      exact h
    by_cases c : same (rd_T76 b (j : Int)) (rd_T76 a (i : Int)) = true
    · refine ⟨some j, fun q h => (by injection h with h; omega), IO _ (evPos c (Ev.now _)), fun h => (by cases h), fun q hq X h => SO X ?_⟩
      obtain rfl : j = q := by injection hq
      rw [c]
      refine Ev.step (fun k => spec_Bias.j3.eq_2 _ _ _ _ _ _ _ k) (evPos rfl (evPos (by omega) (evPos (by omega) ?_)))
      simp only [known_spec, Option.bind_some]
      rw [ui.out]
      simp only [if_pos (show (0 : Int) ≤ (j : Int) by omega), if_pos (show (j : Int) < (b.length : Int) by omega)]
      exact h
    · rw [Bool.not_eq_true] at c
      have S1 : ∀ X, Ev (fun k => spec_Bias.l1 k a b s n (i : Int) ((j + 1 : Nat) : Int)) X → Ev (fun k => spec_Bias.l1 k a b s n (i : Int) (j : Int)) X := fun X h => SO X (by
        rw [c]
        refine Ev.step (fun k => spec_Bias.j3.eq_2 _ _ _ _ _ _ _ k) (evNeg (by decide) ?_)
        rw [uj.out]
        exact h)
      exact ⟨m, h1, IO _ (evNeg (by rw [c]; decide) h2), fun e X h => S1 X (h3 e X h), fun q e X h => S1 X (h4 q e X h)⟩

theorem ends (s : Nat) (n : Int) (a b : List S76) (i : Int) : ∃ r : Nat × Int, Ev (fun k => spec_Bias.j1 k a b s n i false) r ∧ (∀ k : Nat, (if n = 0 then ((impl_nan.f).bind fun t144 => (some (t144, (0 : Int)))) else (some (fdiv s (foi n), n))) = some r) := by
  by_cases c : n = 0
  · refine ⟨(qnan, 0), Ev.step (fun k => spec_Bias.j1.eq_2 _ _ _ _ _ _ k) (evNeg (by decide) (evPos c ?_)), fun _ => ?_⟩
    · rw [show spec_l1None.f = some qnan by decide +kernel]; exact Ev.now _
    · rw [if_pos c]; rfl
  · exact ⟨_, Ev.step (fun k => spec_Bias.j1.eq_2 _ _ _ _ _ _ k) (evNeg (by decide) (evNeg c (Ev.now _))), fun _ => if_neg c⟩

theorem loop_both (a b : List S76) (ha : a.length ≤ 300) (hb : b.length ≤ 300) : ∀ t i (s : Nat) (n : Int), i + t = a.length → ∃ r : Nat × Int, Ev (fun k => spec_Bias.l0 k a b s n (i : Int)) r ∧ Ev (fun k => impl_Bias.l0 k b s n a (a.length : Int) (i : Int)) r := by
  intro t
  induction t with
  | zero =>
    intro i s n hi
    obtain ⟨r, h1, h2⟩ := ends s n a b (i : Int)
    exact ⟨r, Ev.step (fun k => spec_Bias.l0.eq_2 _ _ _ _ _ k) (evNeg (by omega) h1), Ev.step (fun k => impl_Bias.l0.eq_2 _ _ _ _ _ _ k) (evNeg (by omega) (by rw [h2 0]; exact Ev.now _))⟩
  | succ t ih =>
    intro i s n hi
    obtain ⟨m, h1, h2, h3, h4⟩ := find_both a b i s n ha hb (by omega) b.length 0 (by omega)
    have ui := up1 (j := i) (by omega)
    replace ui := Aside0.mk ui
    obtain ⟨r0, s0, i0⟩ := ih (i + 1) s n (by omega)
    have SO : ∀ X, Ev (fun k => spec_Bias.l1 k a b s n (i : Int) 0) X → Ev (fun k => spec_Bias.l0 k a b s n (i : Int)) X := fun X h => Ev.step (fun k => spec_Bias.l0.eq_2 _ _ _ _ _ k) (evPos (by omega) (evPos (by omega) (by
      rw [decide_eq_true (by omega)]
      exact Ev.step (fun k => spec_Bias.j1.eq_2 _ _ _ _ _ _ k) (evPos rfl h))))
    have F : Ev (fun k => impl_Read_impl_Bias_1.f k b [(⟨(rd_T76 a (i : Int)).f0, (rd_T76 a (i : Int)).f1, (rd_T76 a (i : Int)).f2⟩ : S76)]) (ix m) := by
      simp only [impl_Read_impl_Bias_1.f]
      exact h2
    by_cases c : fin (rd_T76 a (i : Int)).f2 = true
    rotate_left
    · refine ⟨r0, SO _ ?_, Ev.step (fun k => impl_Bias.l0.eq_2 _ _ _ _ _ _ k) (evPos (by omega) (evPos (by omega) (evPos (by omega) ?_)))⟩
      · cases m with
        | none => exact h3 rfl _ s0
        | some q => exact h4 q rfl _ (evNeg c s0)
      · simp only [known_impl, Option.bind_some]
        rw [ui.out]
        exact evNeg c i0
    · cases m with
      | none =>
        refine ⟨r0, SO _ (h3 rfl _ s0), Ev.step (fun k => impl_Bias.l0.eq_2 _ _ _ _ _ _ k) (evPos (by omega) (evPos (by omega) (evPos (by omega) ?_)))⟩
        simp only [known_impl, Option.bind_some]
        rw [ui.out]
        exact evPos c (Ev.bind F (evNeg (by decide) i0))
      | some q =>
        have hq := h1 q rfl
        by_cases c2 : fin (rd_T76 b (q : Int)).f2 = true
        · obtain ⟨r1, s1, i1⟩ := ih (i + 1) (fadd s (fsub ((rd_T76 a (i : Int)).f2) ((rd_T76 b (q : Int)).f2))) (wrap64 (n + 1)) (by omega)
          refine ⟨r1, SO _ (h4 q rfl _ (evPos c (evPos c2 s1))), Ev.step (fun k => impl_Bias.l0.eq_2 _ _ _ _ _ _ k) (evPos (by omega) (evPos (by omega) (evPos (by omega) ?_)))⟩
          simp only [known_impl, Option.bind_some]
          rw [ui.out]
          exact evPos c (Ev.bind F (evPos (show (q : Int) ≥ 0 by omega) (evPos (show 0 ≤ (q : Int) by omega) (evPos (show (q : Int) < (b.length : Int) by omega) (evPos c2 i1)))))
        · refine ⟨r0, SO _ (h4 q rfl _ (evPos c (evNeg c2 s0))), Ev.step (fun k => impl_Bias.l0.eq_2 _ _ _ _ _ _ k) (evPos (by omega) (evPos (by omega) (evPos (by omega) ?_)))⟩
          simp only [known_impl, Option.bind_some]
          rw [ui.out]
          exact evPos c (Ev.bind F (evPos (show (q : Int) ≥ 0 by omega) (evPos (show 0 ≤ (q : Int) by omega) (evPos (show (q : Int) < (b.length : Int) by omega) (evNeg c2 i0)))))

theorem bias_both (a b : List S76) : ∃ r : Nat × Int, Ev (fun k => spec_Bias.f k a b) r ∧ Ev (fun k => impl_Bias.f k a b) r := by
  simp only [spec_Bias.f, impl_Bias.f]
  have noS : ∀ i : Int, Ev (fun k => spec_Bias.j1 k a b 0 0 i false) (qnan, 0) := fun i => Ev.step (fun k => spec_Bias.j1.eq_2 _ _ _ _ _ _ k) (evNeg (by decide) (evPos rfl (by rw [show spec_l1None.f = some qnan by decide +kernel]; exact Ev.now _)))
  have noI : Ev (fun k => impl_Bias.j0 k a b true) (qnan, 0) := Ev.step (fun k => impl_Bias.j0.eq_2 _ _ _ k) (evPos rfl (Ev.now _))
  by_cases ha : a.length ≤ 300
  · by_cases hb : b.length ≤ 300
    · obtain ⟨r, h1, h2⟩ := loop_both a b ha hb a.length 0 0 0 (by omega)
      refine ⟨r, h1, evNeg (by omega) ?_⟩
      rw [decide_eq_false (by omega)]
      exact Ev.step (fun k => impl_Bias.j0.eq_2 _ _ _ k) (evNeg (by decide) h2)
    · refine ⟨(qnan, 0), Ev.step (fun k => spec_Bias.l0.eq_2 _ _ _ _ _ k) ?_, evNeg (by omega) ?_⟩
      · by_cases c : (0 : Int) < (a.length : Int)
        · refine evPos c (evPos (by omega) ?_)
          rw [decide_eq_false (by omega)]
          exact noS 0
        · exact evNeg c (noS 0)
      · rw [decide_eq_true (by omega)]
        exact noI
  · refine ⟨(qnan, 0), Ev.step (fun k => spec_Bias.l0.eq_2 _ _ _ _ _ k) (evPos (by omega) (evNeg (by omega) (noS 0))), evPos (by omega) noI⟩

theorem sz2 (l : List S78) (z : Nat) (hz : z ≤ 1048576) (h0 : l.length ≤ 9223372036854775807) : laws_szReadS.f l (z : Int) = some (if l.length ≤ z then ((z - l.length : Nat) : Int) else -1) := by
  unfold laws_szReadS.f
  have e : wrap64 ((z : Int) - (l.length : Int)) = (z : Int) - (l.length : Int) := w64 (by omega) (by omega)
  rw [e]
  clear e
  by_cases c : l.length ≤ z
  · rw [if_neg (by omega), if_pos c]; congr 1; omega
  · rw [if_pos (by omega), if_neg c]

theorem FnExactBias : laws_FnExactBias.Pure := by
  intro a b ha hb
  refine Ev.rounds ?_
  simp only [laws_FnExactBias.f]
  have s0 := sz2 a 1048576 (Nat.le_refl _) ha
  rw [show ((1048576 : Nat) : Int) = 1048576 from rfl] at s0
  rw [s0]
  by_cases c0 : a.length ≤ 1048576
  rotate_left
  · rw [if_neg c0]; exact Ev.step (f := fun _ => some true) (fun k => by simp) (Ev.now _)
  rw [if_pos c0]
  simp only [Option.bind_some]
  refine evNeg (by omega) ?_
  rw [sz2 b _ (by omega) hb]
  by_cases c1 : b.length ≤ 1048576 - a.length
  rotate_left
  · rw [if_neg c1]; exact Ev.step (f := fun _ => some true) (fun k => by simp) (Ev.now _)
  rw [if_pos c1]
  simp only [Option.bind_some]
  refine evNeg (by omega) ?_
  obtain ⟨r, hs, hi⟩ := bias_both (a.map convRead) (b.map convRead)
  refine Ev.bind (toReadS_ev _ (by omega)) ?_
  refine Ev.bind (toReadS_ev _ (by omega)) ?_
  refine Ev.bind hs ?_
  refine Ev.bind (toReadS_ev _ (by omega)) ?_
  refine Ev.bind (toReadS_ev _ (by omega)) ?_
  refine Ev.bind hi ?_
  refine Ev.bind (sameFloat_ev _) ?_
  refine evPos rfl ?_
  rw [show (r.2 != r.2) = false by simp]
  refine Ev.step (fun k => laws_FnExactBias.j0.eq_2 _ _ _ _ _ k) ?_
  refine evNeg (by simp) ?_
  refine Ev.bind (toReadS_ev _ (by omega)) ?_
  refine Ev.bind (eqReadS_ev _ (by simp; omega)) ?_
  refine evPos rfl ?_
  refine Ev.bind (toReadS_ev _ (by omega)) ?_
  refine Ev.bind (eqReadS_ev _ (by simp; omega)) ?_
  exact evPos rfl (Ev.now _)
end Go.Proofs.Ytaophbkedbphnab.Pure
