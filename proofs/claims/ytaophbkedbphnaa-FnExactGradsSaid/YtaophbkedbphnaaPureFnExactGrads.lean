/- The plain statement of the law FnExactGrads: program and reference hand back the same slopes for every grid and every list of values, in a list of their own; no condition. -/
import Derived.Test.YtaophbkedbphnaaTGr
import Derived.Test.YtaophbkedbphnaaQx1
import Derived.Test.YtaophbkedbphnaaQx10
import Derived.Test.YtaophbkedbphnaaQx12
import Derived.Test.YtaophbkedbphnaaQx13
import Derived.Test.YtaophbkedbphnaaQx14
import Derived.Test.YtaophbkedbphnaaQx15
import Derived.Test.YtaophbkedbphnaaQx16
import Derived.Test.YtaophbkedbphnaaQx17
import Derived.Test.YtaophbkedbphnaaQx18
import Derived.Test.YtaophbkedbphnaaQx24
import Derived.Test.YtaophbkedbphnaaQx5
import Derived.Test.YtaophbkedbphnaaQx6
import Derived.Test.YtaophbkedbphnaaQx7
import Derived.Test.YtaophbkedbphnaaQx8
import Derived.Test.YtaophbkedbphnaaQx9
set_option linter.unusedVariables false
set_option linter.unusedSimpArgs false
namespace Go.Proofs.Ytaophbkedbphnaa.Pure
open Go.RowKit Go.Proofs.Ytaophbkedbphnaa.Q Go.Proofs.Ytaophbkedbphnaa.Gen Go.Proofs.YtaophbkedbphnaaW.PrintWords Go.Proofs.YtaophbkedbphnaaW.PrintMore Go.Proofs.YtaophbkedbphnaaW.PrintFlt

theorem none_spec : spec_l1None.f = some qnan := by
  unfold spec_l1None.f
  exact congrArg some (by decide +kernel)
theorem nan_impl : impl_nan.f = some qnan := by
  unfold impl_nan.f math_NaN.f
  rfl
theorem toGrid_ev {b c d e : Int} (a : Int) : Ev (fun _ => laws_toGrid.f a b c d e) (a, b, c, d, e) := Ev.now _
theorem in_spec (a b c : Int) : spec_l2In.f a b c = some (decide (b ≤ a ∧ a ≤ c)) := by
  unfold spec_l2In.f
  by_cases h : a ≥ b
  · rw [if_pos h]; simp [show b ≤ a from h]
  · rw [if_neg h]; simp [show ¬ b ≤ a from h]
theorem in_impl (a b c : Int) : impl_in.f a b c = some (decide (b ≤ a ∧ a ≤ c)) := by
  unfold impl_in.f
  by_cases h : a ≥ b
  · rw [if_pos h]; simp [show b ≤ a from h]
  · rw [if_neg h]; simp [show ¬ b ≤ a from h]
theorem grid_both (a b c d e : Int) : impl_GridOk.f a b c d e = spec_GridOk.f a b c d e := by
  unfold impl_GridOk.f spec_GridOk.f
  simp only [in_spec, in_impl]
theorem grid_some (a b c d e : Int) : ∃ g, spec_GridOk.f a b c d e = some g ∧ (g = true → (2 ≤ a ∧ a ≤ 64) ∧ (2 ≤ b ∧ b ≤ 64)) := by
  unfold spec_GridOk.f
  simp only [in_spec, Option.bind_some]
  by_cases h1 : 2 ≤ a ∧ a ≤ 64
  · by_cases h2 : 2 ≤ b ∧ b ≤ 64
    · simp only [h1, h2, and_self, decide_true, if_true]
      by_cases h3 : (decide (1 ≤ e ∧ e ≤ 3000)) = true
      · rw [if_pos h3]
        by_cases h4 : (decide (-9000 ≤ c ∧ c ≤ 9000)) = true
        · rw [if_pos h4]
          split
          · exact ⟨_, rfl, fun _ => trivial⟩
          · exact ⟨_, rfl, fun _ => trivial⟩
        · rw [if_neg h4]; exact ⟨_, rfl, fun _ => trivial⟩
      · rw [if_neg h3]; exact ⟨_, rfl, fun _ => trivial⟩
    · rw [if_pos (by simpa using h1), if_neg (by simpa using h2)]; exact ⟨_, rfl, fun h => by cases h⟩
  · rw [if_neg (by simpa using h1)]; exact ⟨_, rfl, fun h => by cases h⟩

def near (R C : Nat) (l : List Nat) (i j : Int) : Nat := if 0 ≤ i ∧ i < R ∧ 0 ≤ j ∧ j < C then rd_F l (i * C + j) else qnan
theorem idx {i j R C : Nat} (hi : i < R) (hj : j < C) : i * C + j < R * C := by
  have h : (i + 1) * C ≤ R * C := Nat.mul_le_mul_right C (by omega)
  have h2 : (i + 1) * C = i * C + C := by rw [Nat.add_mul, Nat.one_mul]
  omega
theorem wm {i C : Nat} (hi : i ≤ 64) (hC : C ≤ 64) : wrap64 ((i : Int) * (C : Int)) = ((i * C : Nat) : Int) := by
  have h : i * C ≤ 64 * 64 := Nat.mul_le_mul hi hC
  rw [← Int.natCast_mul, w64 (by omega) (by omega)]
theorem wp {a b : Nat} (ha : a ≤ 1048576) (hb : b ≤ 1048576) : wrap64 ((a : Int) + (b : Int)) = ((a + b : Nat) : Int) := by
  rw [w64 (by omega) (by omega)]; omega
theorem near_spec (R C : Nat) (s w t : Int) (l : List Nat) (i j : Int) (hR : 2 ≤ R ∧ R ≤ 64) (hC : 2 ≤ C ∧ C ≤ 64) (hl : l.length = R * C) : spec_l11Near.f R C s w t l i j = some (near R C l i j) := by
  unfold spec_l11Near.f near
  simp only [in_spec, none_spec, Option.bind_some]
  rw [w64 (x := (R : Int) - 1) (by omega) (by omega), w64 (x := (C : Int) - 1) (by omega) (by omega)]
  by_cases h1 : 0 ≤ i ∧ i ≤ (R : Int) - 1
  · rw [if_pos (by simpa using h1)]
    by_cases h2 : 0 ≤ j ∧ j ≤ (C : Int) - 1
    · rw [if_pos (by simpa using h2), if_pos (show 0 ≤ i ∧ i < (R : Int) ∧ 0 ≤ j ∧ j < (C : Int) by omega)]
      obtain ⟨i', rfl⟩ := Int.eq_ofNat_of_zero_le h1.1
      obtain ⟨j', rfl⟩ := Int.eq_ofNat_of_zero_le h2.1
      have h3 := idx (i := i') (j := j') (R := R) (C := C) (by omega) (by omega)
      have h4 : R * C ≤ 64 * 64 := Nat.mul_le_mul hR.2 hC.2
      rw [wm (by omega) (by omega), wp (by omega) (by omega), if_pos (by omega), if_pos (by omega), Int.natCast_add, Int.natCast_mul]
    · rw [if_neg (by simpa using h2), if_neg (by omega)]
  · rw [if_neg (by simpa using h1), if_neg (by omega)]

def cell (e w n s : Nat) : S84 := if isn e = false ∧ isn w = false ∧ isn n = false ∧ isn s = false then ⟨fdiv (fsub e w) 4611686018427387904, fdiv (fsub n s) 4611686018427387904⟩ else ⟨qnan, qnan⟩
def cellAt (R C : Nat) (l : List Nat) (i j : Int) : S84 := cell (near R C l i (j + 1)) (near R C l i (j - 1)) (near R C l (i + 1) j) (near R C l (i - 1) j)
def rowFrom (R C : Nat) (l : List Nat) (i : Nat) : Nat → Nat → List S84 → List S84
  | 0, _, o => o
  | t + 1, j, o => rowFrom R C l i t (j + 1) (o ++ [cellAt R C l i j])
def allFrom (R C : Nat) (l : List Nat) : Nat → Nat → List S84 → List S84
  | 0, _, o => o
  | t + 1, i, o => allFrom R C l t (i + 1) (rowFrom R C l i C 0 o)
theorem rowFrom_length (R C : Nat) (l : List Nat) (i : Nat) : ∀ t j o, (rowFrom R C l i t j o).length = o.length + t := by
  intro t
  induction t with
  | zero => intro j o; rfl
  | succ t ih => intro j o; simp only [rowFrom, ih, List.length_append, List.length_singleton]; omega
theorem allFrom_length (R C : Nat) (l : List Nat) : ∀ t i o, (allFrom R C l t i o).length = o.length + t * C := by
  intro t
  induction t with
  | zero => intro i o; simp [allFrom]
  | succ t ih => intro i o; simp only [allFrom, ih, rowFrom_length, Nat.add_mul]; omega

theorem edge (R C : Nat) (l : List Nat) (i j : Nat) (h : i = 0 ∨ j = 0 ∨ i + 1 = R ∨ j + 1 = C) : cellAt R C l i j = ⟨qnan, qnan⟩ := by
  unfold cellAt cell
  rw [if_neg]
  rintro ⟨he, hw, hn, hs⟩
  have hq : ∀ {x}, x = qnan → isn x = false → False := fun e h => by rw [e, isn_qnan] at h; cases h
  rcases h with h | h | h | h
  · exact hq (by unfold near; rw [if_neg (by omega)]) hs
  · exact hq (by unfold near; rw [if_neg (by omega)]) hw
  · exact hq (by unfold near; rw [if_neg (by omega)]) hn
  · exact hq (by unfold near; rw [if_neg (by omega)]) he

section
variable (R C : Nat) (s w t0 : Int) (l : List Nat) (hR : 2 ≤ R ∧ R ≤ 64) (hC : 2 ≤ C ∧ C ≤ 64) (hl : l.length = R * C)
include hR hC hl
theorem row_spec (i : Nat) (hi : i < R) (X : List S84) : ∀ t j o, j + t = C → o.length + t ≤ 1048576 → Ev (fun k => spec_Grads.l0 k l (rowFrom R C l i t j o) ((i + 1 : Nat) : Int) R C s w t0) X → Ev (fun k => spec_Grads.l1 k l o (i : Int) (j : Int) R C s w t0) X := by
  intro t
  induction t with
  | zero =>
    intro j o hj ho h
    refine Ev.step (fun k => spec_Grads.l1.eq_2 _ _ _ _ _ _ _ _ _ k) (evNeg (by omega) ?_)
    rw [up1 (by omega)]
    exact h
  | succ t ih =>
    intro j o hj ho h
    refine Ev.step (fun k => spec_Grads.l1.eq_2 _ _ _ _ _ _ _ _ _ k) (evPos (by omega) ?_)
    simp only [near_spec R C s w t0 l _ _ hR hC hl, none_spec, Option.bind_some]
    rw [w64 (x := (j : Int) + 1) (by omega) (by omega), w64 (x := (j : Int) - 1) (by omega) (by omega), w64 (x := (i : Int) + 1) (by omega) (by omega), w64 (x := (i : Int) - 1) (by omega) (by omega)]
    have IH := fun o' (ho' : o'.length = o.length + 1) h' => ih (j + 1) o' (by omega) (by omega) h'
    have e1 : ((j : Int) + 1) = ((j + 1 : Nat) : Int) := by omega
    have h2 : Ev (fun k => spec_Grads.l1 k l (o ++ [cellAt R C l i j]) (i : Int) ((j : Int) + 1) R C s w t0) X := by
      rw [e1]
      exact IH _ (by simp) h
    have ho2 : o.length < 8796093022208 := by omega
    simp only [feq_self]
    unfold cellAt cell at h2
    cases he : isn (near R C l i (j + 1)) with
    | true => rw [if_neg (by simp [he])] at h2; exact evNeg (by decide) (evPos ho2 h2)
    | false =>
      refine evPos (by decide) ?_
      cases hw : isn (near R C l i (j - 1)) with
      | true => rw [if_neg (by simp [hw])] at h2; exact evNeg (by decide) (evPos ho2 h2)
      | false =>
        refine evPos (by decide) ?_
        cases hn : isn (near R C l (i + 1) j) with
        | true => rw [if_neg (by simp [hn])] at h2; exact evNeg (by decide) (evPos ho2 h2)
        | false =>
          refine evPos (by decide) ?_
          cases hs : isn (near R C l (i - 1) j) with
          | true => rw [if_neg (by simp [hs])] at h2; exact evNeg (by decide) (evPos ho2 h2)
          | false => rw [if_pos ⟨he, hw, hn, hs⟩] at h2; exact evPos (by decide) (evPos ho2 h2)
theorem all_spec : ∀ t i o, i + t = R → o.length + t * C ≤ 1048576 → Ev (fun k => spec_Grads.l0 k l o (i : Int) R C s w t0) (allFrom R C l t i o) := by
  intro t
  induction t with
  | zero =>
    intro i o hi ho
    exact Ev.step (fun k => spec_Grads.l0.eq_2 _ _ _ _ _ _ _ _ k) (evNeg (by omega) (Ev.now _))
  | succ t ih =>
    intro i o hi ho
    rw [Nat.add_mul, Nat.one_mul] at ho
    refine Ev.step (fun k => spec_Grads.l0.eq_2 _ _ _ _ _ _ _ _ k) (evPos (by omega) ?_)
    refine row_spec R C s w t0 l hR hC hl i (by omega) _ C 0 o (by omega) (by omega) ?_
    exact ih (i + 1) _ (by omega) (by rw [rowFrom_length]; omega)

theorem row_impl (i : Nat) (hi : i < R) (X : List S84) : ∀ t j o, j + t = C → o.length + t ≤ 1048576 → Ev (fun k => impl_Grads.l0 k l (rowFrom R C l i t j o) ((i + 1 : Nat) : Int) R C s w t0) X → Ev (fun k => impl_Grads.l1 k l o (i : Int) (j : Int) R C s w t0) X := by
  intro t
  induction t with
  | zero =>
    intro j o hj ho h
    refine Ev.step (fun k => impl_Grads.l1.eq_2 _ _ _ _ _ _ _ _ _ k) (evNeg (by omega) ?_)
    rw [up1 (by omega)]
    exact h
  | succ t ih =>
    intro j o hj ho h
    refine Ev.step (fun k => impl_Grads.l1.eq_2 _ _ _ _ _ _ _ _ _ k) (evPos (by omega) ?_)
    rw [w64 (x := (R : Int) - 1) (by omega) (by omega), w64 (x := (C : Int) - 1) (by omega) (by omega)]
    have e1 : Aside0 (wrap64 ((j : Int) + 1) = ((j + 1 : Nat) : Int)) := ⟨up1 (by omega)⟩
    have h2 : Ev (fun k => impl_Grads.l1 k l (o ++ [cellAt R C l i j]) (i : Int) ((j + 1 : Nat) : Int) R C s w t0) X := ih (j + 1) _ (by omega) (by simp; omega) h
    have ho2 : o.length < 8796093022208 := by omega
    have hE : (i = 0 ∨ j = 0 ∨ i + 1 = R ∨ j + 1 = C) → Ev (fun k => impl_Grads.j2 k l o (i : Int) (j : Int) true R C s w t0) X := by
      intro hc
      rw [edge R C l i j hc] at h2
      refine Ev.step (fun k => impl_Grads.j2.eq_2 _ _ _ _ _ _ _ _ _ _ k) (evPos rfl ?_)
      simp only [nan_impl, Option.bind_some]
      rw [e1.out]
      exact evPos ho2 h2
    by_cases c1 : (i : Int) = 0
    · exact evPos c1 (hE (.inl (by omega)))
    refine evNeg c1 ?_
    by_cases c2 : (j : Int) = 0
    · exact evPos c2 (hE (.inr (.inl (by omega))))
    refine evNeg c2 ?_
    by_cases c3 : (i : Int) = (R : Int) - 1
    · exact evPos c3 (hE (.inr (.inr (.inl (by omega)))))
    refine evNeg c3 ?_
    by_cases c4 : (j : Int) = (C : Int) - 1
    · have e4 : ((j : Int) == (C : Int) - 1) = true := by simpa using c4
      rw [e4]
      exact hE (.inr (.inr (.inr (by omega))))
    have e4 : ((j : Int) == (C : Int) - 1) = false := by simpa using c4
    rw [e4]
    have b0 := idx (i := i + 1) (j := j) (R := R) (C := C) (by omega) (by omega)
    have b1 := idx (i := i) (j := j + 1) (R := R) (C := C) (by omega) (by omega)
    have b2 : R * C ≤ 64 * 64 := Nat.mul_le_mul hR.2 hC.2
    obtain ⟨i', rfl⟩ : ∃ i', i = i' + 1 := ⟨i - 1, by omega⟩
    obtain ⟨A, hA⟩ : ∃ A, i' * C = A := ⟨_, rfl⟩
    obtain ⟨M, hM⟩ : ∃ M, R * C = M := ⟨_, rfl⟩
    have b3 : (i' + 1) * C = A + C := by rw [Nat.add_mul, Nat.one_mul, hA]
    have b4 : (i' + 1 + 1) * C = A + C + C := by rw [Nat.add_mul, Nat.one_mul, b3]
    rw [b4, hM] at b0
    rw [b3, hM] at b1
    rw [hM] at b2 hl
    have m1 : Aside0 (wrap64 (wrap64 (((i' + 1 : Nat) : Int) * (C : Int)) + (j : Int)) = ((A + C + j : Nat) : Int)) := ⟨by
      have m0 := wm (i := i' + 1) (C := C) (by omega) (by omega)
      rw [b3] at m0
      rw [m0]
      clear m0
      exact wp (a := A + C) (b := j) (by omega) (by omega)⟩
    have mE : Aside0 (wrap64 (((A + C + j : Nat) : Int) + 1) = ((A + C + j + 1 : Nat) : Int)) := ⟨up1 (by omega)⟩
    have mW : Aside0 (wrap64 (((A + C + j : Nat) : Int) - 1) = ((A + C + j - 1 : Nat) : Int)) := ⟨by rw [w64 (by omega) (by omega)]; omega⟩
    have mN : Aside0 (wrap64 (((A + C + j : Nat) : Int) + (C : Int)) = ((A + C + j + C : Nat) : Int)) := ⟨wp (by omega) (by omega)⟩
    have mS : Aside0 (wrap64 (((A + C + j : Nat) : Int) - (C : Int)) = ((A + j : Nat) : Int)) := ⟨by rw [w64 (by omega) (by omega)]; omega⟩
    have n3 : ((i' + 1 : Nat) : Int) * (C : Int) = ((A + C : Nat) : Int) := by rw [← Int.natCast_mul, b3]
    have n4 : (((i' + 1 : Nat) : Int) + 1) * (C : Int) = ((A + C + C : Nat) : Int) := by rw [show (((i' + 1 : Nat) : Int) + 1) = ((i' + 1 + 1 : Nat) : Int) from rfl, ← Int.natCast_mul, b4]
    have n2 : (((i' + 1 : Nat) : Int) - 1) * (C : Int) = ((A : Nat) : Int) := by rw [show (((i' + 1 : Nat) : Int) - 1) = (i' : Int) by omega, ← Int.natCast_mul, hA]
    have nE : near R C l ((i' + 1 : Nat) : Int) ((j : Int) + 1) = rd_F l ((A + C + j + 1 : Nat) : Int) := by
      unfold near
      rw [if_pos (by omega), n3]
      exact congrArg (rd_F l) (by omega)
    have nW : near R C l ((i' + 1 : Nat) : Int) ((j : Int) - 1) = rd_F l ((A + C + j - 1 : Nat) : Int) := by
      unfold near
      rw [if_pos (by omega), n3]
      exact congrArg (rd_F l) (by omega)
    have nN : near R C l (((i' + 1 : Nat) : Int) + 1) (j : Int) = rd_F l ((A + C + j + C : Nat) : Int) := by
      unfold near
      rw [if_pos (by omega), n4]
      exact congrArg (rd_F l) (by omega)
    have nS : near R C l (((i' + 1 : Nat) : Int) - 1) (j : Int) = rd_F l ((A + j : Nat) : Int) := by
      unfold near
      rw [if_pos (by omega), n2]
      exact congrArg (rd_F l) (by omega)
    unfold cellAt cell at h2
    rw [nE, nW, nN, nS] at h2
    refine Ev.step (fun k => impl_Grads.j2.eq_2 _ _ _ _ _ _ _ _ _ _ k) (evNeg (by decide) ?_)
    rw [m1.out, mE.out, mW.out, mN.out, mS.out]
    refine evPos (by omega) (evPos (by omega) (evPos (by omega) (evPos (by omega) (evPos (by omega) (evPos (by omega) (evPos (by omega) (evPos (by omega) ?_)))))))
    simp only [impl_missing.f, fne_self, Option.bind_some]
    have hN : ¬ (isn (rd_F l ((A + C + j + 1 : Nat) : Int)) = false ∧ isn (rd_F l ((A + C + j - 1 : Nat) : Int)) = false ∧ isn (rd_F l ((A + C + j + C : Nat) : Int)) = false ∧ isn (rd_F l ((A + j : Nat) : Int)) = false) → ∀ a b c d, Ev (fun k => impl_Grads.j3 k l o ((i' + 1 : Nat) : Int) (j : Int) a b c d true R C s w t0) X := by
      intro hc a b c d
      rw [if_neg hc] at h2
      refine Ev.step (fun k => impl_Grads.j3.eq_2 _ _ _ _ _ _ _ _ _ _ _ _ _ _ k) (evPos rfl ?_)
      simp only [nan_impl, Option.bind_some]
      rw [e1.out]
      exact evPos ho2 h2
    cases he : isn (rd_F l ((A + C + j + 1 : Nat) : Int)) with
    | true => exact evPos rfl (hN (fun h => absurd h.1 (by rw [he]; decide)) _ _ _ _)
    | false =>
      refine evNeg (by decide) ?_
      cases hw : isn (rd_F l ((A + C + j - 1 : Nat) : Int)) with
      | true => exact evPos rfl (hN (fun h => absurd h.2.1 (by rw [hw]; decide)) _ _ _ _)
      | false =>
        refine evNeg (by decide) ?_
        cases hn : isn (rd_F l ((A + C + j + C : Nat) : Int)) with
        | true => exact evPos rfl (hN (fun h => absurd h.2.2.1 (by rw [hn]; decide)) _ _ _ _)
        | false =>
          refine evNeg (by decide) ?_
          cases hs : isn (rd_F l ((A + j : Nat) : Int)) with
          | true => exact hN (fun h => absurd h.2.2.2 (by rw [hs]; decide)) _ _ _ _
          | false =>
            rw [if_pos ⟨he, hw, hn, hs⟩] at h2
            refine Ev.step (fun k => impl_Grads.j3.eq_2 _ _ _ _ _ _ _ _ _ _ _ _ _ _ k) (evNeg (by decide) ?_)
            rw [e1.out]
            exact evPos ho2 h2
theorem all_impl : ∀ t i o, i + t = R → o.length + t * C ≤ 1048576 → Ev (fun k => impl_Grads.l0 k l o (i : Int) R C s w t0) (allFrom R C l t i o) := by
  intro t
  induction t with
  | zero =>
    intro i o hi ho
    exact Ev.step (fun k => impl_Grads.l0.eq_2 _ _ _ _ _ _ _ _ k) (evNeg (by omega) (Ev.now _))
  | succ t ih =>
    intro i o hi ho
    rw [Nat.add_mul, Nat.one_mul] at ho
    refine Ev.step (fun k => impl_Grads.l0.eq_2 _ _ _ _ _ _ _ _ k) (evPos (by omega) ?_)
    refine row_impl R C s w t0 l hR hC hl i (by omega) _ C 0 o (by omega) (by omega) ?_
    exact ih (i + 1) _ (by omega) (by rw [rowFrom_length]; omega)
end

theorem fits_eq (a b c d e : Int) (l : List Nat) : impl_fits.f a b c d e l = spec_l11Right.f a b c d e (l.length : Int) := by
  unfold impl_fits.f spec_l11Right.f
  rw [grid_both]
theorem right_some (a b c d e n : Int) : ∃ q, spec_l11Right.f a b c d e n = some q ∧ (q = true → ((2 ≤ a ∧ a ≤ 64) ∧ (2 ≤ b ∧ b ≤ 64)) ∧ n = wrap64 (a * b)) := by
  obtain ⟨g, hg, hb⟩ := grid_some a b c d e
  unfold spec_l11Right.f
  rw [hg, Option.bind_some]
  cases g with
  | false => exact ⟨false, if_neg (by decide), fun h => by cases h⟩
  | true => exact ⟨(n == wrap64 (a * b)), if_pos rfl, fun h => ⟨hb rfl, eq_of_beq h⟩⟩
theorem grads_sized (R C : Nat) (c d e : Int) (l : List Nat) (hR : 2 ≤ R ∧ R ≤ 64) (hC : 2 ≤ C ∧ C ≤ 64) (hl : l.length = R * C) : ∃ r, Ev (fun k => spec_Grads.l0 k l [] 0 R C c d e) r ∧ Ev (fun k => impl_Grads.l0 k l [] 0 R C c d e) r ∧ r.length ≤ 1048576 := by
  have b2 : R * C ≤ 64 * 64 := Nat.mul_le_mul hR.2 hC.2
  have L := allFrom_length R C l R 0 []
  rw [List.length_nil, Nat.zero_add] at L
  have b3 : ([] : List S84).length + R * C ≤ 1048576 := by rw [List.length_nil]; omega
  exact ⟨_, all_spec R C c d e l hR hC hl R 0 [] (Nat.zero_add _) b3, all_impl R C c d e l hR hC hl R 0 [] (Nat.zero_add _) b3, by omega⟩
theorem grads_both (a b c d e : Int) (l : List Nat) (hl : l.length ≤ 1048576) : ∃ r, Ev (fun k => spec_Grads.f k a b c d e l) r ∧ Ev (fun k => impl_Grads.f k a b c d e l) r ∧ r.length ≤ 1048576 := by
  obtain ⟨q, hq, hb⟩ := right_some a b c d e (l.length : Int)
  unfold spec_Grads.f impl_Grads.f
  simp only [fits_eq, hq, Option.bind_some]
  cases q with
  | false => exact ⟨[], evNeg (by decide) (Ev.now _), evNeg (by decide) (Ev.now _), Nat.zero_le _⟩
  | true =>
    obtain ⟨⟨h1, h2⟩, h3⟩ := hb rfl
    clear hb hq
    obtain ⟨R, rfl⟩ := Int.eq_ofNat_of_zero_le (show 0 ≤ a from Int.le_trans (by decide) h1.1)
    obtain ⟨C, rfl⟩ := Int.eq_ofNat_of_zero_le (show 0 ≤ b from Int.le_trans (by decide) h2.1)
    have hR : 2 ≤ R ∧ R ≤ 64 := by clear h3; omega
    have hC : 2 ≤ C ∧ C ≤ 64 := by clear h3; omega
    rw [wm hR.2 hC.2] at h3
    obtain ⟨r, hs, hi, hr⟩ := grads_sized R C c d e l hR hC (Int.ofNat.inj h3)
    exact ⟨r, evPos rfl hs, evPos rfl hi, hr⟩

theorem FnExactGrads : laws_FnExactGrads.Pure := by
  intro a b c d e l hl0
  refine Ev.rounds ?_
  simp only [laws_FnExactGrads.f]
  by_cases hl : l.length ≤ 1048576
  rotate_left
  · exact evPos (by omega) (Ev.now _)
  obtain ⟨r, hs, hi, hr⟩ := grads_both a b c d e l hl
  refine evNeg (by first | omega | (simp; omega) | simp) ?_
  refine Ev.bind (toGrid_ev _) ?_
  refine Ev.bind (toFloat64S_ev _ (by first | assumption | omega | (simp; omega))) ?_
  refine Ev.bind hs ?_
  refine Ev.bind (toFloat64S_ev _ (by first | assumption | omega | (simp; omega))) ?_
  refine Ev.bind (toGrid_ev _) ?_
  refine Ev.bind hi ?_
  refine Ev.bind (eqPairS_ev _ (by first | assumption | omega | (simp; omega))) ?_
  refine evPos (by first | rfl | trivial | simp) ?_
  refine Ev.bind (toFloat64S_ev _ (by first | assumption | omega | (simp; omega))) ?_
  refine Ev.bind (eqFloat64S_ev _ (by first | assumption | omega | (simp; omega))) ?_
  refine evPos (by first | rfl | trivial | simp) ?_
  refine Ev.bind (markFloat64S_ev _ 1 (by first | omega | (simp; omega)) (by omega)) ?_
  refine evNeg (by first | omega | (simp; omega) | simp) ?_
  refine Ev.bind (eqPairS_ev _ (by first | assumption | omega | (simp; omega))) ?_
  refine Ev.step (fun k => laws_FnExactGrads.j0.eq_2 _ _ _ _ _ _ _ _ _ k) ?_
  refine evNeg (by simp) ?_
  refine Ev.bind (markPairS_ev _ 1 (by first | omega | (simp; omega)) (by omega)) ?_
  refine Ev.bind (heldPairS_ev _ 1 (by omega) (by omega)) ?_
  refine evNeg (by first | omega | (simp; omega) | simp) ?_
  refine evPos (by first | rfl | trivial | simp) ?_
  refine Ev.bind (toGrid_ev _) ?_
  refine Ev.bind (toFloat64S_ev _ (by first | assumption | omega | (simp; omega))) ?_
  refine Ev.bind hi ?_
  refine Ev.bind (eqPairS_ev _ (by first | assumption | omega | (simp; omega))) ?_
  refine evPos (by first | rfl | trivial | simp) ?_
  refine Ev.bind (heldPairS_ev _ 1 (by omega) (by omega)) ?_
  refine evNeg (by first | omega | (simp; omega) | simp) ?_
  refine evPos (by first | rfl | trivial | simp) ?_
  exact Ev.now _
end Go.Proofs.Ytaophbkedbphnaa.Pure
