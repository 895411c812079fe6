/- The plain statement of the law FnDrained: of every drawn box each cell's water comes to one outlet at the edge; no condition. -/
import Derived.Test.YtcdghhihfjojaabGen
import Derived.Test.YtcdghhihfjojaabDraw
import Derived.Test.YtcdghhihfjojaabInS
import Derived.Test.YtcdghhihfjojaabQx1
import Derived.Test.YtcdghhihfjojaabQx10
import Derived.Test.YtcdghhihfjojaabQx12
import Derived.Test.YtcdghhihfjojaabQx13
import Derived.Test.YtcdghhihfjojaabQx14
import Derived.Test.YtcdghhihfjojaabQx15
import Derived.Test.YtcdghhihfjojaabQx16
import Derived.Test.YtcdghhihfjojaabQx17
import Derived.Test.YtcdghhihfjojaabQx3
import Derived.Test.YtcdghhihfjojaabQx7
import Derived.Test.YtcdghhihfjojaabQx8
import Derived.Test.YtcdghhihfjojaabQx9
set_option linter.unusedVariables false
set_option linter.unusedSectionVars false
set_option linter.unusedSimpArgs false
namespace Go.Proofs.Ytcdghhihfjojaab.Pure
open Go.RowKit Go.Proofs.Ytcdghhihfjojaab.Q Go.Proofs.Ytcdghhihfjojaab.Gen Go.Proofs.Ytcdghhihfjojaab.Draw Go.Proofs.YtcdghhihfjojaabW.PrintWords Go.Proofs.YtcdghhihfjojaabW.PrintMore

theorem down1 {j : Nat} (h0 : 0 < j) (h : j < 4611686018427387904) : wrap64 ((j : Int) - 1) = ((j - 1 : Nat) : Int) := by unfold wrap64; omega

/-! a box that is well formed -/
theorem box_both (R C : Int) (l : List Int) (h : l.length ≤ 1048576) : ∃ b : Bool, Ev (fun k => spec_BoxOk.f k R C l) b ∧ Ev (fun k => impl_BoxOk.f k R C l) b ∧ (b = true → ∃ r c : Nat, R = r ∧ C = c ∧ 1 ≤ r ∧ r ≤ 24 ∧ 1 ≤ c ∧ c ≤ 24 ∧ l.length = r * c) := by
  simp only [spec_BoxOk.f, impl_BoxOk.f, l2In_s, in_s, Option.bind_some]
  have noS : Ev (fun k => spec_BoxOk.j0 k true R C l) false := Ev.step (fun k => spec_BoxOk.j0.eq_2 _ _ _ _ k) (evPos rfl (Ev.now _))
  have noI : Ev (fun k => impl_BoxOk.j0 k true R C l) false := Ev.step (fun k => impl_BoxOk.j0.eq_2 _ _ _ _ k) (evPos rfl (Ev.now _))
  by_cases c1 : inS R 1 24 = true
  rotate_left
  · exact ⟨false, evNeg c1 noS, evNeg c1 noI, fun h => by cases h⟩
  by_cases c2 : inS C 1 24 = true
  rotate_left
  · exact ⟨false, evPos c1 (evNeg c2 noS), evPos c1 (evNeg c2 noI), fun h => by cases h⟩
  by_cases c3 : ((l.length : Int) != wrap64 (R * C)) = true
  · exact ⟨false, evPos c1 (evPos c2 (by rw [c3]; exact noS)), evPos c1 (evPos c2 (by rw [c3]; exact noI)), fun h => by cases h⟩
  rw [Bool.not_eq_true] at c3
  have d1 := (inS_iff _ _ _).1 c1
  have d2 := (inS_iff _ _ _).1 c2
  obtain ⟨r, rfl⟩ := Int.eq_ofNat_of_zero_le (show 0 ≤ R by omega)
  obtain ⟨c, rfl⟩ := Int.eq_ofNat_of_zero_le (show 0 ≤ C by omega)
  have hrc : r * c ≤ 24 * 24 := Nat.mul_le_mul (by omega) (by omega)
  have hl : l.length = r * c := by
    rw [bne_eq_false_iff_eq, ← Int.natCast_mul, w64 (by omega) (by omega)] at c3
    omega
  have main : ∀ t j, j + t = l.length → ∃ b : Bool, Ev (fun k => spec_BoxOk.l0 k (j : Int) (r : Int) (c : Int) l) b ∧ Ev (fun k => impl_BoxOk.l0 k l (l.length : Int) (j : Int)) b := by
    intro t
    induction t with
    | zero => intro j hj; exact ⟨true, Ev.step (fun k => spec_BoxOk.l0.eq_2 _ _ _ _ k) (evNeg (by omega) (Ev.now _)), Ev.step (fun k => impl_BoxOk.l0.eq_2 _ _ _ k) (evNeg (by omega) (Ev.now _))⟩
    | succ t ih =>
      intro j hj
      obtain ⟨b, hs, hi⟩ := ih (j + 1) (by omega)
      have u := up1 (j := j) (by omega)
      replace u := Aside0.mk u
      by_cases q : inS (rd l (j : Int)) (-1000000000) 1000000000 = true
      · refine ⟨b, Ev.step (fun k => spec_BoxOk.l0.eq_2 _ _ _ _ k) (evPos (by omega) (evPos (by omega) ?_)), Ev.step (fun k => impl_BoxOk.l0.eq_2 _ _ _ k) (evPos (by omega) (evPos (by omega) (evPos (by omega) ?_)))⟩
        · simp only [l2In_s, q, Option.bind_some]
          rw [u.out]; exact evPos trivial hs
        · simp only [in_s, q, Option.bind_some]
          rw [u.out]; exact evPos trivial hi
      · rw [Bool.not_eq_true] at q
        refine ⟨false, Ev.step (fun k => spec_BoxOk.l0.eq_2 _ _ _ _ k) (evPos (by omega) (evPos (by omega) ?_)), Ev.step (fun k => impl_BoxOk.l0.eq_2 _ _ _ k) (evPos (by omega) (evPos (by omega) (evPos (by omega) ?_)))⟩
        · simp only [l2In_s, q, Option.bind_some]
          exact evNeg (by decide) (Ev.now _)
        · simp only [in_s, q, Option.bind_some]
          exact evNeg (by decide) (Ev.now _)
  obtain ⟨b, hs, hi⟩ := main l.length 0 (by omega)
  refine ⟨b, evPos c1 (evPos c2 ?_), evPos c1 (evPos c2 ?_), fun _ => ⟨r, c, rfl, rfl, by omega, by omega, by omega, by omega, hl⟩⟩
  · rw [c3]; exact Ev.step (fun k => spec_BoxOk.j0.eq_2 _ _ _ _ k) (evNeg (by decide) hs)
  · rw [c3]; exact Ev.step (fun k => impl_BoxOk.j0.eq_2 _ _ _ _ k) (evNeg (by decide) hi)

theorem place {R C c : Nat} (hC : 1 ≤ C) (hc : c < R * C) : c / C < R ∧ c % C < C ∧ c = (c / C) * C + c % C ∧ ((c / C < R - 1) → c + C < R * C) := by
  have h1 : c / C < R := Nat.div_lt_of_lt_mul (by rw [Nat.mul_comm]; exact hc)
  have h2 := Nat.mod_lt c hC
  have h3 := Nat.div_add_mod c C
  rw [Nat.mul_comm] at h3
  refine ⟨h1, h2, h3.symm, fun h => ?_⟩
  generalize c / C = q at h h1 h3
  have h4 := Nat.mul_le_mul_right C (show q + 1 + 1 ≤ R by omega)
  rw [Nat.add_mul, Nat.add_mul] at h4
  omega

theorem rd_set (l : List Int) (i : Nat) (v : Int) (j : Nat) (h : i < l.length) : rd (l.set i v) (j : Int) = if j = i then v else rd l (j : Int) := by
  rw [rd_nat, rd_nat, List.getD_eq_getElem?_getD, List.getD_eq_getElem?_getD, List.getElem?_set]
  by_cases c : i = j
  · subst c; simp [h]
  · rw [if_neg c, if_neg (fun e => c e.symm)]


/-! the flooding -/
def wt (W : List Bool) (i : Nat) : Bool := W.getD i false
def un : List Bool → Nat
  | [] => 0
  | b :: l => (if b = false then 1 else 0) + un l
theorem un_le : ∀ l : List Bool, un l ≤ l.length := by
  intro l
  induction l with
  | nil => exact Nat.le_refl _
  | cons x l ih => unfold un; rw [List.length_cons]; split <;> omega
theorem un_rep (n : Nat) : un (List.replicate n false) = n := by
  induction n with
  | zero => rfl
  | succ n ih => rw [List.replicate_succ, un, ih]; simp; omega
theorem un_set : ∀ (l : List Bool) (i : Nat), i < l.length → wt l i = false → un (l.set i true) + 1 = un l := by
  intro l
  induction l with
  | nil => intro i hi; simp at hi
  | cons x l ih =>
    intro i hi h
    cases i with
    | zero =>
      have hx : x = false := by simpa [wt] using h
      simp only [List.set_cons_zero, un]
      rw [if_neg (by decide), if_pos hx]; omega
    | succ i =>
      have := ih i (by simpa using hi) (by simpa [wt] using h)
      simp only [List.set_cons_succ, un]
      omega
theorem wt_set (W : List Bool) (i j : Nat) (h : i < W.length) : wt (W.set i true) j = if j = i then true else wt W j := by
  unfold wt
  rw [List.getD_eq_getElem?_getD, List.getD_eq_getElem?_getD, List.getElem?_set]
  by_cases c : i = j
  · subst c; simp [h]
  · rw [if_neg c, if_neg (fun e => c e.symm)]
theorem wt_rep (n i : Nat) : wt (List.replicate n false) i = false := by
  unfold wt
  rw [List.getD_eq_getElem?_getD, List.getElem?_replicate]
  split <;> rfl
def edge (R C i : Nat) : Prop := i / C = 0 ∨ i % C = 0 ∨ i / C = R - 1 ∨ i % C = C - 1
/-- What is settled of a cell. -/
def Good (cells : List Int) (R C : Nat) (F X : List Int) (W : List Bool) (tm : Nat → Nat) (i : Nat) : Prop :=
  rd cells (i : Int) ≤ rd F (i : Int) ∧ ((rd X (i : Int) = -1 ∧ edge R C i) ∨ ∃ j : Nat, j < R * C ∧ rd X (i : Int) = (j : Int) ∧ wt W j = true ∧ tm j < tm i ∧ rd F (j : Int) ≤ rd F (i : Int))
structure Inv (cells : List Int) (R C : Nat) (F X : List Int) (W : List Bool) (fr : List Int) : Prop where
  lF : F.length = R * C
  lX : X.length = R * C
  lW : W.length = R * C
  room : un W + fr.length ≤ R * C
  fin : ∀ s ∈ fr, ∃ i : Nat, i < R * C ∧ s = (i : Int) ∧ wt W i = true
  good : ∃ tm : Nat → Nat, ∀ i : Nat, i < R * C → wt W i = true → tm i + un W < R * C ∧ Good cells R C F X W tm i
theorem ins_inv {cells : List Int} {R C : Nat} {F X : List Int} {W : List Bool} {fr : List Int} (h : Inv cells R C F X W fr) (m : Nat) (hm : m < R * C) (hw : wt W m = false) (v x : Int) (hv : rd cells (m : Int) ≤ v)
    (hx : (x = -1 ∧ edge R C m) ∨ ∃ j : Nat, j < R * C ∧ x = (j : Int) ∧ wt W j = true ∧ rd F (j : Int) ≤ v) : Inv cells R C (F.set m v) (X.set m x) (W.set m true) (fr ++ [(m : Int)]) ∧ un (W.set m true) + 1 = un W := by
  have hu := un_set W m (by rw [h.lW]; exact hm) hw
  obtain ⟨tm, ht⟩ := h.good
  have hr := h.room
  refine ⟨⟨by rw [List.length_set]; exact h.lF, by rw [List.length_set]; exact h.lX, by rw [List.length_set]; exact h.lW, by rw [List.length_append, List.length_singleton]; omega, ?_, ?_⟩, hu⟩
  · intro s hs
    rcases List.mem_append.1 hs with hs | hs
    · obtain ⟨i, h1, h2, h3⟩ := h.fin s hs
      exact ⟨i, h1, h2, by rw [wt_set _ _ _ (by rw [h.lW]; exact hm)]; split <;> first | rfl | exact h3⟩
    · rw [List.mem_singleton] at hs
      exact ⟨m, hm, hs, by rw [wt_set _ _ _ (by rw [h.lW]; exact hm), if_pos rfl]⟩
  · refine ⟨fun i => if i = m then R * C - un W else tm i, fun i hi hwi => ?_⟩
    rw [wt_set _ _ _ (by rw [h.lW]; exact hm)] at hwi
    have eF : ∀ j : Nat, rd (F.set m v) (j : Int) = if j = m then v else rd F (j : Int) := fun j => rd_set F m v j (by rw [h.lF]; exact hm)
    have eX : ∀ j : Nat, rd (X.set m x) (j : Int) = if j = m then x else rd X (j : Int) := fun j => rd_set X m x j (by rw [h.lX]; exact hm)
    have eW : ∀ j : Nat, wt (W.set m true) j = if j = m then true else wt W j := fun j => wt_set W m j (by rw [h.lW]; exact hm)
    unfold Good
    rw [eF, eX]
    by_cases c : i = m
    · subst c
      simp only [if_true]
      refine ⟨by omega, hv, ?_⟩
      rcases hx with hx | ⟨j, h1, h2, h3, h4⟩
      · exact .inl hx
      · have hj : j ≠ i := fun e => by rw [e, hw] at h3; cases h3
        have := (ht j h1 h3).1
        refine .inr ⟨j, h1, h2, by rw [eW, if_neg hj]; exact h3, ?_, by rw [eF, if_neg hj]; exact h4⟩
        rw [if_neg hj]
        omega
    · rw [if_neg c] at hwi
      simp only [if_neg c]
      obtain ⟨t1, g1, g2⟩ := ht i hi hwi
      refine ⟨by omega, g1, ?_⟩
      rcases g2 with g2 | ⟨j, h1, h2, h3, h4, h5⟩
      · exact .inl g2
      · have hj : j ≠ m := fun e => by rw [e, hw] at h3; cases h3
        refine .inr ⟨j, h1, h2, by rw [eW, if_neg hj]; exact h3, ?_, by rw [eF, if_neg hj]; exact h5⟩
        rw [if_neg hj]
        exact h4
/-- More cells are settled, the new ones wait. -/
structure Grow (n : Nat) (W : List Bool) (fr : List Int) (W' : List Bool) (fr' : List Int) : Prop where
  mono : ∀ i, wt W i = true → wt W' i = true
  keep : ∀ s ∈ fr, s ∈ fr'
  new : ∀ i, i < n → wt W' i = true → wt W i = true ∨ (i : Int) ∈ fr'
  meas : un W' + fr'.length = un W + fr.length
theorem Grow.refl (n : Nat) (W : List Bool) (fr : List Int) : Grow n W fr W fr := ⟨fun _ h => h, fun _ h => h, fun _ _ h => .inl h, rfl⟩
theorem Grow.trans {n : Nat} {W W1 W2 : List Bool} {fr fr1 fr2 : List Int} (h : Grow n W fr W1 fr1) (g : Grow n W1 fr1 W2 fr2) : Grow n W fr W2 fr2 :=
  ⟨fun i a => g.mono i (h.mono i a), fun s a => g.keep s (h.keep s a), fun i hi a => by
    rcases g.new i hi a with b | b
    · rcases h.new i hi b with c | c
      · exact .inl c
      · exact .inr (g.keep _ c)
    · exact .inr b, g.meas.trans h.meas⟩
theorem ins_grow {n : Nat} {W : List Bool} {fr : List Int} {m : Nat} (hm : m < W.length) (hw : wt W m = false) : Grow n W fr (W.set m true) (fr ++ [(m : Int)]) := by
  have hu := un_set W m hm hw
  refine ⟨fun i h => ?_, fun s hs => List.mem_append_left _ hs, fun i hi h => ?_, by rw [List.length_append, List.length_singleton]; omega⟩
  · rw [wt_set _ _ _ hm]
    split
    · rfl
    · exact h
  · rw [wt_set _ _ _ hm] at h
    split at h
    · rename_i e
      exact .inr (by rw [e]; simp)
    · exact .inl h
theorem tdn (i C : Nat) (hi : i < 100000) : wrap64 (Int.tdiv (i : Int) (C : Int)) = ((i / C : Nat) : Int) := by
  rw [Int.tdiv_eq_ediv_of_nonneg (by omega)]
  have : i / C ≤ i := Nat.div_le_self _ _
  rw [← Int.natCast_ediv]
  generalize i / C = q at *
  exact w64 (by omega) (by omega)
theorem tmn (i C : Nat) : Int.tmod (i : Int) (C : Int) = ((i % C : Nat) : Int) := by
  rw [Int.tmod_eq_emod_of_nonneg (by omega)]
  rfl
section
variable {cells : List Int} {R C : Nat} (hR1 : 1 ≤ R) (hR : R ≤ 24) (hC1 : 1 ≤ C) (hC : C ≤ 24) (hn : cells.length = R * C)
include hR1 hR hC1 hC hn
theorem nle : R * C ≤ 576 := Nat.mul_le_mul hR hC
def dirs : List S60 := [(⟨1, 0⟩ : S60), (⟨0, 1⟩ : S60), (⟨(-1), 0⟩ : S60), (⟨0, (-1)⟩ : S60)]
/-- One of the four ways from the cell k. -/
theorem dir1 (k0 : Nat) (hk : k0 < R * C) (t : Nat) (ht : t < 4) (d0 d1 : Int) (hd : rd_T60 dirs (t : Int) = ⟨d0, d1⟩) (hd0 : -1 ≤ d0 ∧ d0 ≤ 1) (hd1 : -1 ≤ d1 ∧ d1 ≤ 1) {F X : List Int} {W : List Bool} {fr : List Int} (hI : Inv cells R C F X W fr) (hw : wt W k0 = true) :
    ∃ F' X' W' fr', Inv cells R C F' X' W' fr' ∧ Grow (R * C) W fr W' fr' ∧ (∀ y x : Nat, ((k0 / C : Nat) : Int) + d0 = (y : Int) → ((k0 % C : Nat) : Int) + d1 = (x : Int) → y < R → x < C → wt W' (y * C + x) = true) ∧
      ∀ Z : List Int × List Int, Ev (fun k => impl_Drain.l3 k F' X' W' fr' (k0 : Int) ((k0 / C : Nat) : Int) ((k0 % C : Nat) : Int) dirs 4 ((t + 1 : Nat) : Int) (R : Int) (C : Int) cells) Z → Ev (fun k => impl_Drain.l3 k F X W fr (k0 : Int) ((k0 / C : Nat) : Int) ((k0 % C : Nat) : Int) dirs 4 (t : Int) (R : Int) (C : Int) cells) Z := by
  have hb := nle hR1 hR hC1 hC hn
  obtain ⟨p1, p2, p3, _⟩ := place hC1 hk
  have hroom := hI.room
  have u : Aside0 (wrap64 ((t : Int) + 1) = ((t + 1 : Nat) : Int)) := ⟨up1 (by omega)⟩
  have uR : Aside0 (wrap64 ((R : Int) - 1) = ((R - 1 : Nat) : Int)) := ⟨down1 (by omega) (by omega)⟩
  have uC : Aside0 (wrap64 ((C : Int) - 1) = ((C - 1 : Nat) : Int)) := ⟨down1 (by omega) (by omega)⟩
  have hlF := hI.lF
  have hlX := hI.lX
  have hlW := hI.lW
  generalize hi : k0 / C = i at *
  generalize hj : k0 % C = j at *
  have a1 : Aside0 (wrap64 ((i : Int) + d0) = (i : Int) + d0) := ⟨w64 (by omega) (by omega)⟩
  have a2 : Aside0 (wrap64 ((j : Int) + d1) = (j : Int) + d1) := ⟨w64 (by omega) (by omega)⟩
  by_cases cy : inS ((i : Int) + d0) 0 ((R - 1 : Nat) : Int) = true
  rotate_left
  · refine ⟨F, X, W, fr, hI, Grow.refl _ _ _, fun y x e1 _ hy _ => absurd ((inS_iff _ _ _).2 (by omega)) cy, fun Z hZ => ?_⟩
    refine Ev.step (fun k => impl_Drain.l3.eq_2 _ _ _ _ _ _ _ _ _ _ _ _ _ k) (evPos (by omega) (evPos (by omega) (evPos (by simp [dirs]; omega) ?_)))
    rw [hd]
    dsimp only
    rw [a1.out, a2.out, uR.out, in_s]
    rw [Bool.not_eq_true] at cy
    rw [cy]
    refine Ev.bind (Ev.now _) (evNeg (by decide) (Ev.step (fun k => impl_Drain.j6.eq_2 _ _ _ _ _ _ _ _ _ _ _ _ _ _ _ _ k) (evPos rfl ?_)))
    rw [u.out]
    exact hZ
  by_cases cx : inS ((j : Int) + d1) 0 ((C - 1 : Nat) : Int) = true
  rotate_left
  · refine ⟨F, X, W, fr, hI, Grow.refl _ _ _, fun y x _ e2 _ hx => absurd ((inS_iff _ _ _).2 (by omega)) cx, fun Z hZ => ?_⟩
    refine Ev.step (fun k => impl_Drain.l3.eq_2 _ _ _ _ _ _ _ _ _ _ _ _ _ k) (evPos (by omega) (evPos (by omega) (evPos (by simp [dirs]; omega) ?_)))
    rw [hd]
    dsimp only
    rw [a1.out, a2.out, uR.out, uC.out, in_s, in_s, cy]
    rw [Bool.not_eq_true] at cx
    rw [cx]
    refine Ev.bind (Ev.now _) (evPos rfl (Ev.bind (Ev.now _) (Ev.step (fun k => impl_Drain.j6.eq_2 _ _ _ _ _ _ _ _ _ _ _ _ _ _ _ _ k) (evPos rfl ?_))))
    rw [u.out]
    exact hZ
  have gy := (inS_iff _ _ _).1 cy
  have gx := (inS_iff _ _ _).1 cx
  obtain ⟨y, hy⟩ := Int.eq_ofNat_of_zero_le gy.1
  obtain ⟨x, hx⟩ := Int.eq_ofNat_of_zero_le gx.1
  have hyR : y < R := by omega
  have hxC : x < C := by omega
  have h4 := Nat.mul_le_mul_right C (show y + 1 ≤ R by omega)
  rw [Nat.add_mul, Nat.one_mul] at h4
  have hm : y * C + x < R * C := by omega
  have a3 : Aside0 (wrap64 (wrap64 ((y : Int) * (C : Int)) + (x : Int)) = ((y * C + x : Nat) : Int)) := ⟨by
    rw [← Int.natCast_mul]
    generalize y * C = p at h4 hm
    rw [w64 (x := (p : Int)) (by omega) (by omega), w64 (by omega) (by omega)]; omega⟩
  have uniq : ∀ y' x' : Nat, (i : Int) + d0 = (y' : Int) → (j : Int) + d1 = (x' : Int) → y' * C + x' = y * C + x := fun y' x' e1 e2 => by
    obtain rfl : y' = y := by omega
    obtain rfl : x' = x := by omega
    rfl
  generalize hM : y * C + x = m at *
  have hwm : rdOf false W (m : Int) = wt W m := by simp [rdOf, wt]
  have start : ∀ Z : List Int × List Int, Ev (fun k => impl_Drain.j6 k F X W fr (k0 : Int) (i : Int) (j : Int) (y : Int) (x : Int) dirs 4 (t : Int) false (R : Int) (C : Int) cells) Z → Ev (fun k => impl_Drain.l3 k F X W fr (k0 : Int) (i : Int) (j : Int) dirs 4 (t : Int) (R : Int) (C : Int) cells) Z := fun Z hZ => by
    refine Ev.step (fun k => impl_Drain.l3.eq_2 _ _ _ _ _ _ _ _ _ _ _ _ _ k) (evPos (by omega) (evPos (by omega) (evPos (by simp [dirs]; omega) ?_)))
    rw [hd]
    dsimp only
    rw [a1.out, a2.out, uR.out, uC.out, in_s, in_s, cy, cx, hy, hx]
    exact Ev.bind (Ev.now _) (evPos rfl (Ev.bind (Ev.now _) hZ))
  by_cases cw : wt W m = true
  · refine ⟨F, X, W, fr, hI, Grow.refl _ _ _, fun y' x' e1 e2 _ _ => by rw [uniq y' x' e1 e2]; exact cw, fun Z hZ => start Z ?_⟩
    refine Ev.step (fun k => impl_Drain.j6.eq_2 _ _ _ _ _ _ _ _ _ _ _ _ _ _ _ _ k) (evNeg (by decide) ?_)
    rw [a3.out, u.out, hwm]
    exact evPos (by omega) (evPos (by omega) (evPos cw hZ))
  · have cw' : wt W m = false := by rwa [Bool.not_eq_true] at cw
    have hmx : rd cells (m : Int) ≤ mx (rd cells (m : Int)) (rd F (k0 : Int)) ∧ rd F (k0 : Int) ≤ mx (rd cells (m : Int)) (rd F (k0 : Int)) := by unfold mx; split <;> omega
    obtain ⟨hI', _⟩ := ins_inv hI m hm cw' (mx (rd cells (m : Int)) (rd F (k0 : Int))) (k0 : Int) hmx.1 (.inr ⟨k0, hk, rfl, hw, hmx.2⟩)
    refine ⟨_, _, _, _, hI', ins_grow (by omega) cw', fun y' x' e1 e2 _ _ => by rw [uniq y' x' e1 e2, wt_set _ _ _ (by omega), if_pos rfl], fun Z hZ => start Z ?_⟩
    refine Ev.step (fun k => impl_Drain.j6.eq_2 _ _ _ _ _ _ _ _ _ _ _ _ _ _ _ _ k) (evNeg (by decide) ?_)
    rw [a3.out, u.out, hwm, Int.toNat_natCast]
    exact evPos (by omega) (evPos (by omega) (evNeg cw (evPos (by omega) (evPos (by omega) (evPos (by omega) (evPos (by omega) (evPos (by omega) (evPos (by omega) hZ))))))))
/-- All four ways from the cell k. -/
theorem dir4 (k0 : Nat) (hk : k0 < R * C) {F X : List Int} {W : List Bool} {fr : List Int} (hI : Inv cells R C F X W fr) (hw : wt W k0 = true) :
    ∃ F' X' W' fr', Inv cells R C F' X' W' fr' ∧ Grow (R * C) W fr W' fr' ∧ (k0 + C < R * C → wt W' (k0 + C) = true) ∧
      ∀ Z : List Int × List Int, Ev (fun k => impl_Drain.l1 k F' X' W' fr' (R : Int) (C : Int) cells) Z → Ev (fun k => impl_Drain.l3 k F X W fr (k0 : Int) ((k0 / C : Nat) : Int) ((k0 % C : Nat) : Int) dirs 4 0 (R : Int) (C : Int) cells) Z := by
  obtain ⟨p1, p2, p3, _⟩ := place hC1 hk
  obtain ⟨F1, X1, W1, f1, I1, G1, D1, E1⟩ := dir1 hR1 hR hC1 hC hn k0 hk 0 (by decide) 1 0 rfl (by decide) (by decide) hI hw
  obtain ⟨F2, X2, W2, f2, I2, G2, _, E2⟩ := dir1 hR1 hR hC1 hC hn k0 hk 1 (by decide) 0 1 rfl (by decide) (by decide) I1 (G1.mono _ hw)
  obtain ⟨F3, X3, W3, f3, I3, G3, _, E3⟩ := dir1 hR1 hR hC1 hC hn k0 hk 2 (by decide) (-1) 0 rfl (by decide) (by decide) I2 (G2.mono _ (G1.mono _ hw))
  obtain ⟨F4, X4, W4, f4, I4, G4, _, E4⟩ := dir1 hR1 hR hC1 hC hn k0 hk 3 (by decide) 0 (-1) rfl (by decide) (by decide) I3 (G3.mono _ (G2.mono _ (G1.mono _ hw)))
  refine ⟨F4, X4, W4, f4, I4, ((G1.trans G2).trans G3).trans G4, fun hlt => ?_, fun Z hZ => ?_⟩
  · have e : (k0 / C + 1) * C + k0 % C = k0 + C := by rw [Nat.add_mul, Nat.one_mul]; omega
    have hrow : k0 / C + 1 < R := by
      apply Decidable.byContradiction
      intro hc
      have h5 := Nat.mul_le_mul_right C (show R ≤ k0 / C + 1 by omega)
      omega
    have := D1 (k0 / C + 1) (k0 % C) (by omega) (by omega) hrow p2
    rw [e] at this
    exact G4.mono _ (G3.mono _ (G2.mono _ this))
  · exact E1 Z (E2 Z (E3 Z (E4 Z (Ev.step (fun k => impl_Drain.l3.eq_2 _ _ _ _ _ _ _ _ _ _ _ _ _ k) (evNeg (by decide) hZ)))))
/-- The lowest of those that wait: some place of the list. -/
theorem pick {F X : List Int} {W : List Bool} {fr : List Int} (hI : Inv cells R C F X W fr) : ∀ t q a, q + t = fr.length → a < fr.length → ∃ a', a' < fr.length ∧
    ∀ Z : List Int × List Int, Ev (fun k => impl_Drain.l2 k F X W fr (a' : Int) fr (fr.length : Int) (fr.length : Int) (R : Int) (C : Int) cells) Z → Ev (fun k => impl_Drain.l2 k F X W fr (a : Int) fr (fr.length : Int) (q : Int) (R : Int) (C : Int) cells) Z := by
  have hb := nle hR1 hR hC1 hC hn
  have hroom := hI.room
  have el : ∀ i : Nat, i < fr.length → ∃ m : Nat, m < R * C ∧ rd fr (i : Int) = (m : Int) := fun i hi => by
    obtain ⟨m, h1, h2, _⟩ := hI.fin (rd fr (i : Int)) (by
      rw [rd_nat]
      simp only [List.getD_eq_getElem?_getD, List.getElem?_eq_getElem hi, Option.getD_some]
      exact List.getElem_mem hi)
    exact ⟨m, h1, h2⟩
  have hlF := hI.lF
  intro t
  induction t with
  | zero =>
    intro q a h ha
    obtain rfl : q = fr.length := by omega
    exact ⟨a, ha, fun Z hZ => hZ⟩
  | succ t ih =>
    intro q a h ha
    obtain ⟨m1, g1, e1⟩ := el q (by omega)
    obtain ⟨m2, g2, e2⟩ := el a ha
    have u : Aside0 (wrap64 ((q : Int) + 1) = ((q + 1 : Nat) : Int)) := ⟨up1 (by omega)⟩
    have J : ∀ b : Bool, ∃ a', a' < fr.length ∧ ∀ Z : List Int × List Int, Ev (fun k => impl_Drain.l2 k F X W fr (a' : Int) fr (fr.length : Int) (fr.length : Int) (R : Int) (C : Int) cells) Z → Ev (fun k => impl_Drain.j4 k F X W fr (a : Int) (q : Int) fr (fr.length : Int) (q : Int) b (R : Int) (C : Int) cells) Z := by
      intro b
      cases b with
      | true =>
        obtain ⟨a', ha', hZ⟩ := ih (q + 1) q (by omega) (by omega)
        refine ⟨a', ha', fun Z z => Ev.step (fun k => impl_Drain.j4.eq_2 _ _ _ _ _ _ _ _ _ _ _ _ _ k) (evPos rfl ?_)⟩
        rw [u.out]
        exact hZ Z z
      | false =>
        obtain ⟨a', ha', hZ⟩ := ih (q + 1) a (by omega) ha
        refine ⟨a', ha', fun Z z => Ev.step (fun k => impl_Drain.j4.eq_2 _ _ _ _ _ _ _ _ _ _ _ _ _ k) (evNeg (by decide) ?_)⟩
        rw [u.out]
        exact hZ Z z
    have head : ∀ (b : Bool), (∀ Z : List Int × List Int, Ev (fun k => impl_Drain.j4 k F X W fr (a : Int) (q : Int) fr (fr.length : Int) (q : Int) b (R : Int) (C : Int) cells) Z → Ev (fun k => if rd F (m1 : Int) < rd F (m2 : Int) then impl_Drain.j4 k F X W fr (a : Int) (q : Int) fr (fr.length : Int) (q : Int) true (R : Int) (C : Int) cells else if rd F (m1 : Int) = rd F (m2 : Int) then impl_Drain.j4 k F X W fr (a : Int) (q : Int) fr (fr.length : Int) (q : Int) (decide ((m1 : Int) < (m2 : Int))) (R : Int) (C : Int) cells else impl_Drain.j4 k F X W fr (a : Int) (q : Int) fr (fr.length : Int) (q : Int) false (R : Int) (C : Int) cells) Z) →
        ∃ a', a' < fr.length ∧ ∀ Z : List Int × List Int, Ev (fun k => impl_Drain.l2 k F X W fr (a' : Int) fr (fr.length : Int) (fr.length : Int) (R : Int) (C : Int) cells) Z → Ev (fun k => impl_Drain.l2 k F X W fr (a : Int) fr (fr.length : Int) (q : Int) (R : Int) (C : Int) cells) Z := by
      intro b hb'
      obtain ⟨a', ha', hJ⟩ := J b
      refine ⟨a', ha', fun Z z => Ev.step (fun k => impl_Drain.l2.eq_2 _ _ _ _ _ _ _ _ _ _ _ k) (evPos (by omega) (evPos (by omega) (evPos (by omega) (evPos (by omega) (evPos (by omega) ?_)))))⟩
      rw [e1, e2]
      exact evPos (by omega) (evPos (by omega) (evPos (by omega) (evPos (by omega) (hb' Z (hJ Z z)))))
    by_cases c1 : rd F (m1 : Int) < rd F (m2 : Int)
    · exact head true (fun Z z => evPos c1 z)
    by_cases c2 : rd F (m1 : Int) = rd F (m2 : Int)
    · exact head _ (fun Z z => evNeg c1 (evPos c2 z))
    · exact head false (fun Z z => evNeg c1 (evNeg c2 z))
/-- What is known below a settled cell that waits no more. -/
def Cl (R C : Nat) (W : List Bool) (fr : List Int) : Prop := ∀ i : Nat, i < R * C → wt W i = true → (i : Int) ∈ fr ∨ ¬ i + C < R * C ∨ wt W (i + C) = true
theorem flood : ∀ (m : Nat) {F X : List Int} {W : List Bool} {fr : List Int}, Inv cells R C F X W fr → un W + fr.length = m → (∀ i, i < C → wt W i = true) → Cl R C W fr →
    ∃ F' X' W', Inv cells R C F' X' W' [] ∧ (∀ i, i < R * C → wt W' i = true) ∧ Ev (fun k => impl_Drain.l1 k F X W fr (R : Int) (C : Int) cells) (F', X') := by
  have hb := nle hR1 hR hC1 hC hn
  intro m
  induction m using Nat.strongRecOn with
  | _ m ih =>
    intro F X W fr hI hm h0 hcl
    by_cases hf : fr = []
    · subst hf
      refine ⟨F, X, W, hI, ?_, Ev.step (fun k => impl_Drain.l1.eq_2 _ _ _ _ _ _ _ k) (evNeg (by simp) (Ev.now _))⟩
      intro i
      induction i using Nat.strongRecOn with
      | _ i ihi =>
        intro hi
        by_cases c : i < C
        · exact h0 i c
        · have hw := ihi (i - C) (by omega) (by omega)
          rcases hcl (i - C) (by omega) hw with h | h | h
          · cases h
          · exact absurd (show i - C + C < R * C by omega) h
          · rwa [show i - C + C = i by omega] at h
    · have hpos : 0 < fr.length := List.length_pos_iff.2 hf
      have hroom := hI.room
      obtain ⟨a, ha, hpick⟩ := pick hR1 hR hC1 hC hn hI fr.length 0 0 (by omega) hpos
      have hmem : rd fr (a : Int) ∈ fr := by
        rw [rd_nat]
        simp only [List.getD_eq_getElem?_getD, List.getElem?_eq_getElem ha, Option.getD_some]
        exact List.getElem_mem ha
      obtain ⟨k0, hk, ek, hwk⟩ := hI.fin _ hmem
      have hlen : (fr.eraseIdx a).length + 1 = fr.length := by rw [List.length_eraseIdx, if_pos ha]; omega
      have hsub : ∀ s ∈ fr.eraseIdx a, s ∈ fr := fun s hs => List.mem_of_mem_eraseIdx hs
      have hback : ∀ s ∈ fr, s = (k0 : Int) ∨ s ∈ fr.eraseIdx a := fun s hs => by
        obtain ⟨q, hq, e⟩ := List.mem_iff_getElem.1 hs
        by_cases c : q = a
        · subst c
          left
          rw [← e, ← ek, rd_nat]
          simp [List.getD_eq_getElem?_getD, hq]
        · right
          rw [List.mem_eraseIdx_iff_getElem]
          exact ⟨q, hq, c, e⟩
      have hI1 : Inv cells R C F X W (fr.eraseIdx a) := ⟨hI.lF, hI.lX, hI.lW, by omega, fun s hs => hI.fin s (hsub s hs), hI.good⟩
      obtain ⟨F', X', W', f', I', G', D', E'⟩ := dir4 hR1 hR hC1 hC hn k0 hk hI1 hwk
      have hG := G'.meas
      obtain ⟨F2, X2, W2, I2, A2, E2⟩ := ih (un W' + f'.length) (by omega) I' rfl (fun i hi => G'.mono i (h0 i hi)) (by
        intro i hi hw
        by_cases c : i = k0
        · by_cases d : i + C < R * C
          · exact .inr (.inr (by rw [c]; exact D' (by omega)))
          · exact .inr (.inl d)
        · rcases G'.new i hi hw with h | h
          · rcases hcl i hi h with h | h | h
            · rcases hback _ h with e | e
              · exact absurd (by omega) c
              · exact .inl (G'.keep _ e)
            · exact .inr (.inl h)
            · exact .inr (.inr (G'.mono _ h))
          · exact .inl h)
      refine ⟨F2, X2, W2, I2, A2, ?_⟩
      have ua : Aside0 (wrap64 ((a : Int) + 1) = ((a + 1 : Nat) : Int)) := ⟨up1 (by omega)⟩
      have del : slices_Delete_int64_int64.f fr (a : Int) (wrap64 ((a : Int) + 1)) = some (fr.eraseIdx a) := by
        unfold slices_Delete_int64_int64.f
        rw [ua.out, if_pos rfl, if_pos (by omega), if_pos (by omega), if_pos (by omega), if_pos (by omega), if_pos (by omega), Int.toNat_natCast]
      refine Ev.step (fun k => impl_Drain.l1.eq_2 _ _ _ _ _ _ _ k) (evPos (by omega) (hpick _ ?_))
      refine Ev.step (fun k => impl_Drain.l2.eq_2 _ _ _ _ _ _ _ _ _ _ _ k) (evNeg (by omega) (evPos (by omega) (evPos (by omega) ?_)))
      rw [del, ek, tdn k0 C (by omega), tmn]
      exact Ev.bind (Ev.now _) (evNeg (by omega) (Ev.bind (Ev.now _) (E' _ E2)))
/-- The cells at the edge, one after another. -/
theorem rim : ∀ t i {F X : List Int} {W : List Bool} {fr : List Int}, i + t = R * C → Inv cells R C F X W fr → (∀ j, j < R * C → wt W j = true → j < i ∧ (j : Int) ∈ fr) → (∀ j, j < i → j < C → wt W j = true) →
    ∃ F' X' W', Inv cells R C F' X' W' [] ∧ (∀ i, i < R * C → wt W' i = true) ∧ Ev (fun k => impl_Drain.l0 k ((R * C : Nat) : Int) F X W fr (i : Int) (R : Int) (C : Int) cells) (F', X') := by
  have hb := nle hR1 hR hC1 hC hn
  intro t
  induction t with
  | zero =>
    intro i F X W fr h hI hA hB
    have hrow : C ≤ R * C := by
      have := Nat.mul_le_mul_right C hR1
      omega
    obtain ⟨F', X', W', I', A', E'⟩ := flood hR1 hR hC1 hC hn _ hI rfl (fun j hj => hB j (by omega) hj) (fun j hj hw => .inl (hA j hj hw).2)
    exact ⟨F', X', W', I', A', Ev.step (fun k => impl_Drain.l0.eq_2 _ _ _ _ _ _ _ _ _ k) (evNeg (by omega) E')⟩
  | succ t ih =>
    intro i F X W fr h hI hA hB
    have hroom := hI.room
    have hlF := hI.lF
    have hlX := hI.lX
    have hlW := hI.lW
    have u : Aside0 (wrap64 ((i : Int) + 1) = ((i + 1 : Nat) : Int)) := ⟨up1 (by omega)⟩
    have uR : Aside0 (wrap64 ((R : Int) - 1) = ((R - 1 : Nat) : Int)) := ⟨down1 (by omega) (by omega)⟩
    have uC : Aside0 (wrap64 ((C : Int) - 1) = ((C - 1 : Nat) : Int)) := ⟨down1 (by omega) (by omega)⟩
    have td := Aside0.mk (tdn i C (by omega))
    have tm := Aside0.mk (tmn i C)
    have yes : edge R C i → ∃ F' X' W', Inv cells R C F' X' W' [] ∧ (∀ i, i < R * C → wt W' i = true) ∧ Ev (fun k => impl_Drain.j1 k ((R * C : Nat) : Int) F X W fr (i : Int) true (R : Int) (C : Int) cells) (F', X') := by
      intro he
      have hw : wt W i = false := by
        cases c : wt W i with
        | false => rfl
        | true => have := (hA i (by omega) c).1; omega
      obtain ⟨I1, _⟩ := ins_inv hI i (by omega) hw (rd cells (i : Int)) (-1) (Int.le_refl _) (.inl ⟨rfl, he⟩)
      obtain ⟨F', X', W', I', A', E'⟩ := ih (i + 1) (by omega) I1 (fun j hj hwj => by
        rw [wt_set _ _ _ (by omega)] at hwj
        by_cases c : j = i
        · exact ⟨by omega, by rw [c]; simp⟩
        · rw [if_neg c] at hwj
          have := hA j hj hwj
          exact ⟨by omega, List.mem_append_left _ this.2⟩) (fun j hj hjC => by
        rw [wt_set _ _ _ (by omega)]
        by_cases c : j = i
        · rw [if_pos c]
        · rw [if_neg c]
          exact hB j (by omega) hjC)
      refine ⟨F', X', W', I', A', Ev.step (fun k => impl_Drain.j1.eq_2 _ _ _ _ _ _ _ _ _ _ k) (evPos rfl (evPos (by omega) (evPos (by omega) (evPos (by omega) (evPos (by omega) (evPos (by omega) (evPos (by omega) ?_)))))))⟩
      rw [u.out, Int.toNat_natCast]
      exact E'
    have no : ¬ edge R C i → ∃ F' X' W', Inv cells R C F' X' W' [] ∧ (∀ i, i < R * C → wt W' i = true) ∧ Ev (fun k => impl_Drain.j1 k ((R * C : Nat) : Int) F X W fr (i : Int) false (R : Int) (C : Int) cells) (F', X') := by
      intro he
      have hi : ¬ i < C := fun hc => he (.inl (Nat.div_eq_of_lt hc))
      obtain ⟨F', X', W', I', A', E'⟩ := ih (i + 1) (by omega) hI (fun j hj hwj => by
        have := hA j hj hwj
        exact ⟨by omega, this.2⟩) (fun j hj hjC => hB j (by omega) hjC)
      refine ⟨F', X', W', I', A', Ev.step (fun k => impl_Drain.j1.eq_2 _ _ _ _ _ _ _ _ _ _ k) (evNeg (by decide) ?_)⟩
      rw [u.out]
      exact E'
    have head : ∀ (b : Bool) , (∃ F' X' W', Inv cells R C F' X' W' [] ∧ (∀ i, i < R * C → wt W' i = true) ∧ Ev (fun k => impl_Drain.j1 k ((R * C : Nat) : Int) F X W fr (i : Int) b (R : Int) (C : Int) cells) (F', X')) →
        (∀ Z : List Int × List Int, Ev (fun k => impl_Drain.j1 k ((R * C : Nat) : Int) F X W fr (i : Int) b (R : Int) (C : Int) cells) Z → Ev (fun k => if ((i / C : Nat) : Int) = 0 then impl_Drain.j1 k ((R * C : Nat) : Int) F X W fr (i : Int) true (R : Int) (C : Int) cells else if ((i % C : Nat) : Int) = 0 then impl_Drain.j1 k ((R * C : Nat) : Int) F X W fr (i : Int) true (R : Int) (C : Int) cells else if ((i / C : Nat) : Int) = ((R - 1 : Nat) : Int) then impl_Drain.j1 k ((R * C : Nat) : Int) F X W fr (i : Int) true (R : Int) (C : Int) cells else impl_Drain.j1 k ((R * C : Nat) : Int) F X W fr (i : Int) (((i % C : Nat) : Int) == ((C - 1 : Nat) : Int)) (R : Int) (C : Int) cells) Z) →
        ∃ F' X' W', Inv cells R C F' X' W' [] ∧ (∀ i, i < R * C → wt W' i = true) ∧ Ev (fun k => impl_Drain.l0 k ((R * C : Nat) : Int) F X W fr (i : Int) (R : Int) (C : Int) cells) (F', X') := by
      rintro b ⟨F', X', W', I', A', E'⟩ hz
      refine ⟨F', X', W', I', A', Ev.step (fun k => impl_Drain.l0.eq_2 _ _ _ _ _ _ _ _ _ k) (evPos (by omega) (evNeg (by omega) ?_))⟩
      rw [td.out, tm.out, uR.out, uC.out]
      exact hz _ E'
    by_cases c1 : i / C = 0
    · exact head true (yes (.inl c1)) (fun Z z => evPos (by omega) z)
    by_cases c2 : i % C = 0
    · exact head true (yes (.inr (.inl c2))) (fun Z z => evNeg (by omega) (evPos (by omega) z))
    by_cases c3 : i / C = R - 1
    · exact head true (yes (.inr (.inr (.inl c3)))) (fun Z z => evNeg (by omega) (evNeg (by omega) (evPos (by omega) z)))
    by_cases c4 : i % C = C - 1
    · exact head true (yes (.inr (.inr (.inr c4)))) (fun Z z => evNeg (by omega) (evNeg (by omega) (evNeg (by omega) (by rw [show (((i % C : Nat) : Int) == ((C - 1 : Nat) : Int)) = true from beq_iff_eq.2 (by omega)]; exact z))))
    · exact head false (no (fun e => by rcases e with e | e | e | e <;> omega)) (fun Z z => evNeg (by omega) (evNeg (by omega) (evNeg (by omega) (by rw [show (((i % C : Nat) : Int) == ((C - 1 : Nat) : Int)) = false from beq_eq_false_iff_ne.2 (by omega)]; exact z))))
end
/-! what has come of it -/
structure Res (cells : List Int) (R C : Nat) (F X : List Int) (tm : Nat → Nat) : Prop where
  lF : F.length = R * C
  lX : X.length = R * C
  low : ∀ i : Nat, i < R * C → tm i < R * C ∧ rd cells (i : Int) ≤ rd F (i : Int)
  way : ∀ i : Nat, i < R * C → (rd X (i : Int) = -1 ∧ edge R C i) ∨ ∃ j : Nat, j < R * C ∧ rd X (i : Int) = (j : Int) ∧ tm j < tm i ∧ rd F (j : Int) ≤ rd F (i : Int)
def os (X out : List Int) : Nat → Int
  | 0 => 0
  | j + 1 => os X out j + (if rd X (j : Int) = -1 then rd out (j : Int) else 0)
theorem os_set (X out : List Int) (i : Nat) (v : Int) (hi : i < out.length) : ∀ j, os X (out.set i v) j = os X out j + (if i < j ∧ rd X (i : Int) = -1 then v - rd out (i : Int) else 0) := by
  intro j
  induction j with
  | zero => rw [if_neg (by omega)]; rfl
  | succ j ih =>
    rw [os, os, ih, rd_set out i v j hi]
    by_cases c : rd X (j : Int) = -1
    · rw [if_pos c, if_pos c]
      by_cases d : j = i
      · subst d
        rw [if_pos rfl, if_neg (by omega), if_pos ⟨by omega, c⟩]
        omega
      · rw [if_neg d]
        by_cases e : i < j ∧ rd X (i : Int) = -1
        · rw [if_pos e, if_pos ⟨by omega, e.2⟩]
          omega
        · rw [if_neg e, if_neg (fun h => e ⟨by omega, h.2⟩)]
          omega
    · rw [if_neg c, if_neg c]
      by_cases e : i < j ∧ rd X (i : Int) = -1
      · rw [if_pos e, if_pos ⟨by omega, e.2⟩]
        omega
      · rw [if_neg e, if_neg (fun h => by
          by_cases d : i = j
          · subst d; exact c h.2
          · exact e ⟨by omega, h.2⟩)]
theorem os_rep (X : List Int) (n : Nat) : ∀ j, os X (List.replicate n 0) j = 0 := by
  intro j
  induction j with
  | zero => rfl
  | succ j ih =>
    have : rd (List.replicate n (0 : Int)) (j : Int) = 0 := by
      rw [rd_nat, List.getD_eq_getElem?_getD, List.getElem?_replicate]
      split <;> rfl
    rw [os, ih, this]
    split <;> rfl
section
variable {cells : List Int} {R C : Nat} (hR1 : 1 ≤ R) (hR : R ≤ 24) (hC1 : 1 ≤ C) (hC : C ≤ 24) (hn : cells.length = R * C) {F X : List Int} {tm : Nat → Nat} (hr : Res cells R C F X tm)
include hR1 hR hC1 hC hn hr
/-- One way down. -/
theorem chain (c : Nat) (hc : c < R * C) : ∀ (m : Nat) (i : Nat) (out : List Int) (steps B : Nat), tm i = m → i < R * C → steps + m < R * C → out.length = R * C → B + m ≤ 1000000 → (∀ j : Nat, j < R * C → 0 ≤ rd out (j : Int) ∧ rd out (j : Int) ≤ (B : Int)) →
    ∃ out' : List Int, out'.length = R * C ∧ (∀ j : Nat, j < R * C → 0 ≤ rd out' (j : Int) ∧ rd out' (j : Int) ≤ ((B + m + 1 : Nat) : Int)) ∧ os X out' (R * C) = os X out (R * C) + 1 ∧
      ∀ Z : List Int × Bool, Ev (fun k => impl_Catch.l1 k X ((R * C : Nat) : Int) out' ((c + 1 : Nat) : Int)) Z → Ev (fun k => impl_Catch.l2 k X ((R * C : Nat) : Int) out (c : Int) (steps : Int) (i : Int)) Z := by
  have hb : R * C ≤ 576 := Nat.mul_le_mul hR hC
  intro m
  induction m using Nat.strongRecOn with
  | _ m ih =>
    intro i out steps B hm hi hs ho hB hbd
    have hlX := hr.lX
    have b := hbd i hi
    have us : Aside0 (wrap64 ((steps : Int) + 1) = ((steps + 1 : Nat) : Int)) := ⟨up1 (by omega)⟩
    have uo : Aside0 (wrap64 (rd out (i : Int) + 1) = rd out (i : Int) + 1) := ⟨w64 (by omega) (by omega)⟩
    have uc : Aside0 (wrap64 ((c : Int) + 1) = ((c + 1 : Nat) : Int)) := ⟨up1 (by omega)⟩
    have hset := os_set X out i (rd out (i : Int) + 1) (by omega) (R * C)
    have hbd1 : ∀ j : Nat, j < R * C → 0 ≤ rd (out.set i (rd out (i : Int) + 1)) (j : Int) ∧ rd (out.set i (rd out (i : Int) + 1)) (j : Int) ≤ ((B + 1 : Nat) : Int) := fun j hj => by
      rw [rd_set _ _ _ _ (by omega)]
      have := hbd j hj
      split <;> omega
    have step : ∀ Z : List Int × Bool, Ev (fun k => impl_Catch.l2 k X ((R * C : Nat) : Int) (out.set i (rd out (i : Int) + 1)) (c : Int) ((steps + 1 : Nat) : Int) (rd X (i : Int))) Z → Ev (fun k => impl_Catch.l2 k X ((R * C : Nat) : Int) out (c : Int) (steps : Int) (i : Int)) Z := fun Z z => by
      refine Ev.step (fun k => impl_Catch.l2.eq_2 _ _ _ _ _ _ k) (evPos (by omega) (evPos (by omega) (evPos (by omega) ?_)))
      rw [us.out, uo.out, Int.toNat_natCast]
      exact evNeg (by omega) (evPos (by omega) z)
    rcases hr.way i hi with ⟨hx, _⟩ | ⟨j, hj, hx, ht, _⟩
    · refine ⟨out.set i (rd out (i : Int) + 1), by rw [List.length_set]; exact ho, fun j hj => ?_, ?_, fun Z z => step Z ?_⟩
      · have := hbd1 j hj
        omega
      · rw [hset, if_pos ⟨hi, hx⟩]
        omega
      · rw [hx]
        refine Ev.step (fun k => impl_Catch.l2.eq_2 _ _ _ _ _ _ k) (evNeg (by decide) ?_)
        rw [uc.out]
        exact z
    · obtain ⟨out', g1, g2, g3, g4⟩ := ih (tm j) (by omega) j (out.set i (rd out (i : Int) + 1)) (steps + 1) (B + 1) rfl hj (by omega) (by rw [List.length_set]; exact ho) (by omega) hbd1
      refine ⟨out', g1, fun q hq => ?_, ?_, fun Z z => step Z ?_⟩
      · have := g2 q hq
        omega
      · rw [g3, hset, if_neg (fun h => by have := h.2; omega)]
        omega
      · rw [hx]
        exact g4 Z z
theorem catch1 : ∀ (t c : Nat) (out : List Int), c + t = R * C → out.length = R * C → (∀ j : Nat, j < R * C → 0 ≤ rd out (j : Int) ∧ rd out (j : Int) ≤ ((c * 600 : Nat) : Int)) → os X out (R * C) = (c : Int) →
    ∃ out' : List Int, out'.length = R * C ∧ (∀ j : Nat, j < R * C → 0 ≤ rd out' (j : Int) ∧ rd out' (j : Int) ≤ 345600) ∧ os X out' (R * C) = ((R * C : Nat) : Int) ∧ Ev (fun k => impl_Catch.l1 k X ((R * C : Nat) : Int) out (c : Int)) (out', true) := by
  have hb : R * C ≤ 576 := Nat.mul_le_mul hR hC
  intro t
  induction t with
  | zero =>
    intro c out h ho hbd hos
    obtain rfl : c = R * C := by omega
    exact ⟨out, ho, fun j hj => by have := hbd j hj; omega, hos, Ev.step (fun k => impl_Catch.l1.eq_2 _ _ _ _ k) (evNeg (by omega) (Ev.now _))⟩
  | succ t ih =>
    intro c out h ho hbd hos
    have hlow := (hr.low c (by omega)).1
    obtain ⟨out1, g1, g2, g3, g4⟩ := chain hR1 hR hC1 hC hn hr c (by omega) (tm c) c out 0 (c * 600) rfl (by omega) (by omega) ho (by omega) hbd
    obtain ⟨out2, k1, k2, k3, k4⟩ := ih (c + 1) out1 (by omega) g1 (fun j hj => by have := g2 j hj; omega) (by rw [g3, hos]; omega)
    exact ⟨out2, k1, k2, k3, Ev.step (fun k => impl_Catch.l1.eq_2 _ _ _ _ k) (evPos (by omega) (g4 _ k4))⟩
theorem catch_ok : ∃ out : List Int, out.length = R * C ∧ (∀ j : Nat, j < R * C → 0 ≤ rd out (j : Int) ∧ rd out (j : Int) ≤ 345600) ∧ os X out (R * C) = ((R * C : Nat) : Int) ∧ Ev (fun k => impl_Catch.f k X) (out, true) := by
  have hb : R * C ≤ 576 := Nat.mul_le_mul hR hC
  have hlX := hr.lX
  obtain ⟨out, g1, g2, g3, g4⟩ := catch1 hR1 hR hC1 hC hn hr (R * C) 0 (List.replicate (R * C) 0) (by omega) (by simp) (fun j hj => by
    have : rd (List.replicate (R * C) (0 : Int)) (j : Int) = 0 := by
      rw [rd_nat, List.getD_eq_getElem?_getD, List.getElem?_replicate]
      split <;> rfl
    omega) (os_rep _ _ _)
  refine ⟨out, g1, g2, g3, ?_⟩
  unfold impl_Catch.f
  rw [hlX]
  refine evNeg (by omega) ?_
  have un1 : Aside0 (wrap64 (((R * C : Nat) : Int) - 1) = ((R * C : Nat) : Int) - 1) := ⟨w64 (by omega) (by omega)⟩
  have key : ∀ t i, i + t = R * C → Ev (fun k => impl_Catch.l0 k X ((R * C : Nat) : Int) X ((R * C : Nat) : Int) (i : Int)) (out, true) := by
    intro t
    induction t with
    | zero =>
      intro i h
      refine Ev.step (fun k => impl_Catch.l0.eq_2 _ _ _ _ _ k) (evNeg (by omega) (evPos (by omega) ?_))
      rw [Int.toNat_natCast]
      exact evPos (by omega) g4
    | succ t ih =>
      intro i h
      have hw : -1 ≤ rd X (i : Int) ∧ rd X (i : Int) ≤ ((R * C : Nat) : Int) - 1 := by
        rcases hr.way i (by omega) with ⟨hx, _⟩ | ⟨j, hj, hx, _⟩ <;> omega
      have u : Aside0 (wrap64 ((i : Int) + 1) = ((i + 1 : Nat) : Int)) := ⟨up1 (by omega)⟩
      refine Ev.step (fun k => impl_Catch.l0.eq_2 _ _ _ _ _ k) (evPos (by omega) (evPos (by omega) (evPos (by omega) ?_)))
      rw [un1.out, in_s, (inS_iff _ _ _).2 hw, u.out]
      exact Ev.bind (Ev.now _) (evPos rfl (ih (i + 1) (by omega)))
  exact key (R * C) 0 (by omega)
theorem outlet (i : Nat) (hi : i < R * C) : ∃ o : Nat, o < R * C ∧ rd X (o : Int) = -1 ∧ Ev (fun k => impl_OutletOf.f k X (i : Int)) (o : Int) := by
  have hb : R * C ≤ 576 := Nat.mul_le_mul hR hC
  have hlX := hr.lX
  have key : ∀ (m i : Nat), tm i = m → i < R * C → ∃ o : Nat, o < R * C ∧ rd X (o : Int) = -1 ∧ Ev (fun k => impl_OutletOf.l0 k X (i : Int)) (o : Int) := by
    intro m
    induction m using Nat.strongRecOn with
    | _ m ih =>
      intro i hm hi
      rcases hr.way i hi with ⟨hx, _⟩ | ⟨j, hj, hx, ht, _⟩
      · exact ⟨i, hi, hx, Ev.step (fun k => impl_OutletOf.l0.eq_2 _ _ k) (evPos (by omega) (evPos (by omega) (evNeg (by omega) (Ev.now _))))⟩
      · obtain ⟨o, h1, h2, h3⟩ := ih (tm j) (by omega) j rfl hj
        refine ⟨o, h1, h2, Ev.step (fun k => impl_OutletOf.l0.eq_2 _ _ k) (evPos (by omega) (evPos (by omega) (evPos (by omega) ?_)))⟩
        rw [hx]
        exact h3
  obtain ⟨o, h1, h2, h3⟩ := key (tm i) i rfl hi
  obtain ⟨out, _, _, _, g4⟩ := catch_ok hR1 hR hC1 hC hn hr
  refine ⟨o, h1, h2, ?_⟩
  unfold impl_OutletOf.f
  refine Ev.bind g4 (evPos rfl ?_)
  have un1 : Aside0 (wrap64 ((X.length : Int) - 1) = ((R * C : Nat) : Int) - 1) := ⟨by rw [hlX]; exact w64 (by omega) (by omega)⟩
  rw [un1.out, in_s, (inS_iff _ _ _).2 (by omega)]
  exact Ev.bind (Ev.now _) (Ev.step (fun k => impl_OutletOf.j0.eq_2 _ _ _ k) (evNeg (by decide) h3))
theorem os_range {out : List Int} (hbd : ∀ j : Nat, j < R * C → 0 ≤ rd out (j : Int) ∧ rd out (j : Int) ≤ 345600) : ∀ j, j ≤ R * C → 0 ≤ os X out j ∧ os X out j ≤ ((j * 345600 : Nat) : Int) := by
  intro j
  induction j with
  | zero => intro _; exact ⟨Int.le_refl _, Int.le_refl _⟩
  | succ j ih =>
    intro hj
    have a := ih (by omega)
    have b := hbd j (by omega)
    rw [os]
    split <;> omega
theorem law0 {out : List Int} (ho : out.length = R * C) (hbd : ∀ j : Nat, j < R * C → 0 ≤ rd out (j : Int) ∧ rd out (j : Int) ≤ 345600) (hos : os X out (R * C) = ((R * C : Nat) : Int)) : ∀ t i, i + t = R * C →
    Ev (fun k => laws_FnDrained.l0 k F X ((R * C : Nat) : Int) out (os X out i) (i : Int) (R : Int) (C : Int) cells) true := by
  have hb : R * C ≤ 576 := Nat.mul_le_mul hR hC
  have hlX := hr.lX
  have hlF := hr.lF
  intro t
  induction t with
  | zero =>
    intro i h
    obtain rfl : i = R * C := by omega
    refine Ev.step (fun k => laws_FnDrained.l0.eq_2 _ _ _ _ _ _ _ _ _ k) (evNeg (by omega) ?_)
    rw [hos, show (((R * C : Nat) : Int) == ((R * C : Nat) : Int)) = true from beq_iff_eq.2 rfl]
    exact Ev.now _
  | succ t ih =>
    intro i h
    have hi : i < R * C := by omega
    have hlow := (hr.low i hi).2
    have hrest := ih (i + 1) (by omega)
    rw [os] at hrest
    have hrg := os_range hR1 hR hC1 hC hn hr hbd i (by omega)
    have hbi := hbd i hi
    obtain ⟨o, h1, h2, h3⟩ := outlet hR1 hR hC1 hC hn hr i hi
    have u : Aside0 (wrap64 ((i : Int) + 1) = ((i + 1 : Nat) : Int)) := ⟨up1 (by omega)⟩
    have uR : Aside0 (wrap64 ((R : Int) - 1) = ((R - 1 : Nat) : Int)) := ⟨down1 (by omega) (by omega)⟩
    have uC : Aside0 (wrap64 ((C : Int) - 1) = ((C - 1 : Nat) : Int)) := ⟨down1 (by omega) (by omega)⟩
    have ua : Aside0 (wrap64 (os X out i + rd out (i : Int)) = os X out i + rd out (i : Int)) := ⟨w64 (by omega) (by omega)⟩
    have td := Aside0.mk (tdn i C (by omega))
    have tmo := Aside0.mk (tmn i C)
    rcases hr.way i hi with ⟨hx, he⟩ | ⟨j, hj, hx, ht, hf⟩
    · rw [if_pos hx] at hrest
      have J4 : Ev (fun k => laws_FnDrained.j4 k F X ((R * C : Nat) : Int) out (os X out i + rd out (i : Int)) (i : Int) false (R : Int) (C : Int) cells) true := by
        refine Ev.step (fun k => laws_FnDrained.j4.eq_2 _ _ _ _ _ _ _ _ _ _ k) (evNeg (by decide) (Ev.bind h3 (evNeg (by omega) (evNeg (by omega) (evPos (by omega) (evPos (by omega) (evPos h2 ?_)))))))
        rw [u.out]
        exact hrest
      have J3 : Ev (fun k => laws_FnDrained.j3 k F X ((R * C : Nat) : Int) out (os X out i) (i : Int) false (R : Int) (C : Int) cells) true := by
        refine Ev.step (fun k => laws_FnDrained.j3.eq_2 _ _ _ _ _ _ _ _ _ _ k) (evNeg (by decide) (evPos (by omega) (evPos (by omega) (evPos hx (evPos (by omega) (evNeg (by omega) ?_))))))
        rw [td.out, tmo.out, uR.out, uC.out, ua.out]
        by_cases c1 : ((i / C : Nat) : Int) > 0
        · refine evPos c1 ?_
          by_cases c2 : ((i / C : Nat) : Int) < ((R - 1 : Nat) : Int)
          · refine evPos c2 ?_
            by_cases c3 : ((i % C : Nat) : Int) > 0
            · rw [show decide (((i % C : Nat) : Int) < ((C - 1 : Nat) : Int)) = false from decide_eq_false (fun c4 => by rcases he with he | he | he | he <;> omega)]
              exact evPos c3 J4
            · exact evNeg c3 J4
          · exact evNeg c2 J4
        · exact evNeg c1 J4
      exact Ev.step (fun k => laws_FnDrained.l0.eq_2 _ _ _ _ _ _ _ _ _ k) (evPos (by omega) (evPos (by omega) (evPos (by omega) (evNeg (by omega) (evNeg (by omega) (evPos (by omega) (evPos (by omega) (evNeg (by omega) (evNeg (by omega) J3)))))))))
    · rw [if_neg (by omega), Int.add_zero] at hrest
      have J3 : Ev (fun k => laws_FnDrained.j3 k F X ((R * C : Nat) : Int) out (os X out i) (i : Int) false (R : Int) (C : Int) cells) true := by
        refine Ev.step (fun k => laws_FnDrained.j3.eq_2 _ _ _ _ _ _ _ _ _ _ k) (evNeg (by decide) (evPos (by omega) (evPos (by omega) (evNeg (by omega) (Ev.bind h3 (evNeg (by omega) (evNeg (by omega) (evPos (by omega) (evPos (by omega) (evPos h2 ?_))))))))))
        rw [u.out]
        exact hrest
      refine Ev.step (fun k => laws_FnDrained.l0.eq_2 _ _ _ _ _ _ _ _ _ k) (evPos (by omega) (evPos (by omega) (evPos (by omega) (evNeg (by omega) (evNeg (by omega) (evPos (by omega) (evPos (by omega) (evNeg (by omega) (evPos (by omega) (evPos (by omega) (evPos (by omega) ?_)))))))))))
      rw [hx, show decide (rd F (j : Int) > rd F (i : Int)) = false from decide_eq_false (by omega)]
      exact J3
end
theorem drain_ok (r c : Nat) (l : List Int) (r1 : 1 ≤ r) (r2 : r ≤ 24) (c1 : 1 ≤ c) (c2 : c ≤ 24) (hl : l.length = r * c) (bi : Ev (fun k => impl_BoxOk.f k (r : Int) (c : Int) l) true) : ∃ F X tm, Res l r c F X tm ∧ Ev (fun k => impl_Drain.f k (r : Int) (c : Int) l) (F, X) := by
  have hb : r * c ≤ 576 := Nat.mul_le_mul r2 c2
  have e2 : wrap64 ((r : Int) * (c : Int)) = ((r * c : Nat) : Int) := by
    rw [← Int.natCast_mul]
    exact w64 (by omega) (by omega)
  have I0 : Inv l r c (List.replicate (r * c) 0) (List.replicate (r * c) 0) (List.replicate (r * c) false) [] := ⟨by simp, by simp, by simp, by rw [un_rep]; simp, fun s hs => (by cases hs), ⟨fun _ => 0, fun i _ hw => by rw [wt_rep] at hw; cases hw⟩⟩
  obtain ⟨F, X, W, hI, hA, hE⟩ := rim r1 r2 c1 c2 hl (r * c) 0 (by omega) I0 (fun j _ hw => by rw [wt_rep] at hw; cases hw) (fun j hj => by omega)
  obtain ⟨tm, ht⟩ := hI.good
  refine ⟨F, X, tm, ⟨hI.lF, hI.lX, fun i hi => ⟨by have := (ht i hi (hA i hi)).1; omega, (ht i hi (hA i hi)).2.1⟩, fun i hi => ?_⟩, ?_⟩
  · rcases (ht i hi (hA i hi)).2.2 with h | ⟨j, h1, h2, h3, h4, h5⟩
    · exact .inl h
    · exact .inr ⟨j, h1, h2, h4, h5⟩
  · unfold impl_Drain.f
    refine Ev.bind bi (evPos rfl ?_)
    rw [e2, Int.toNat_natCast]
    exact evPos (by omega) (evPos (by omega) (evPos (by omega) hE))
/-! what is drawn -/
theorem ev_of {α : Type} {x : Option α} {v : α} (h : x = some v) : Ev (fun _ => x) v := by rw [h]; exact Ev.now _
theorem box_l0 {l : List Int} (h : Src l) (R C : Int) (n : Nat) (hn : wrap64 (R * C) = (n : Int)) (hb : n ≤ 1000) : ∀ (t : Nat) (bl : List Int) (p : Int), bl.length + t = n → At l p → ∃ bl' q, Ev (fun k => spec_l1Rd_box.l0 k l p R C bl) (R, C, bl', q) ∧ 1 ≤ bl'.length + (1 - n) ∧ bl'.length ≤ 1000 ∧ At l q := by
  intro t
  induction t with
  | zero =>
    intro bl p hl hp
    exact ⟨bl, p, Ev.step (fun k => spec_l1Rd_box.l0.eq_2 _ _ _ _ _ k) (evNeg (by rw [hn]; omega) (Ev.now _)), by omega, by omega, hp⟩
  | succ t ih =>
    intro bl p hl hp
    obtain ⟨v, q, e, v0, v1, hq⟩ := below_ok h hp 9 (by omega)
    obtain ⟨bl', q', h', g1, g2, g3⟩ := ih (bl ++ [v]) q (by simp; omega) hq
    exact ⟨bl', q', Ev.step (fun k => spec_l1Rd_box.l0.eq_2 _ _ _ _ _ k) (evPos (by rw [hn]; omega) (Ev.bind (ev_of e) (evPos (by omega) h'))), g1, g2, g3⟩
theorem box_j1 {l : List Int} (h : Src l) (R C p : Int) (r1 : 1 ≤ R) (r2 : R ≤ 20) (c1 : 1 ≤ C) (c2 : C ≤ 20) (hp : At l p) : ∃ bl' q, Ev (fun k => spec_l1Rd_box.j1 k l p R C) (R, C, bl', q) ∧ 1 ≤ bl'.length ∧ bl'.length ≤ 1000 ∧ At l q := by
  obtain ⟨r, rfl⟩ := Int.eq_ofNat_of_zero_le (show 0 ≤ R by omega)
  obtain ⟨c, rfl⟩ := Int.eq_ofNat_of_zero_le (show 0 ≤ C by omega)
  have hm : r * c ≤ 20 * 20 := Nat.mul_le_mul (by omega) (by omega)
  have hm1 : 1 * 1 ≤ r * c := Nat.mul_le_mul (by omega) (by omega)
  obtain ⟨bl', q, h', g1, g2, g3⟩ := box_l0 h (r : Int) (c : Int) (r * c) (by rw [← Int.natCast_mul]; exact w64 (by omega) (by omega)) (by omega) (r * c) [] p (by simp) hp
  exact ⟨bl', q, Ev.step (fun k => spec_l1Rd_box.j1.eq_2 _ _ _ _ k) h', by omega, g2, g3⟩
theorem box_ok {l : List Int} (h : Src l) {p : Int} (hp : At l p) : ∃ R C bl q, Ev (fun k => spec_l1Rd_box.f k l p) (R, C, bl, q) ∧ 1 ≤ bl.length ∧ bl.length ≤ 1000 ∧ At l q := by
  simp only [spec_l1Rd_box.f]
  obtain ⟨v1, q1, e1, a1, b1, h1⟩ := below_ok h hp 5 (by omega)
  obtain ⟨v2, q2, e2, a2, b2, h2⟩ := below_ok h h1 6 (by omega)
  have J : ∀ (b : Bool) q, At l q → ∃ R C bl q', Ev (fun k => spec_l1Rd_box.j0 k b l q (wrap64 (1 + v1)) (wrap64 (1 + v2))) (R, C, bl, q') ∧ 1 ≤ bl.length ∧ bl.length ≤ 1000 ∧ At l q' := by
    intro b q hq
    have w1 : wrap64 (1 + v1) = 1 + v1 := w64 (by omega) (by omega)
    have w2 : wrap64 (1 + v2) = 1 + v2 := w64 (by omega) (by omega)
    rw [w1, w2]
    cases b with
    | false =>
      obtain ⟨bl, q', h', g⟩ := box_j1 h (1 + v1) (1 + v2) q (by omega) (by omega) (by omega) (by omega) hq
      exact ⟨_, _, bl, q', Ev.step (fun k => spec_l1Rd_box.j0.eq_2 _ _ _ _ _ k) (evNeg (by decide) h'), g⟩
    | true =>
      obtain ⟨v3, q3, e3, a3, b3, h3⟩ := below_ok h hq 5 (by omega)
      obtain ⟨v4, q4, e4, a4, b4, h4⟩ := below_ok h h3 5 (by omega)
      obtain ⟨bl, q', h', g⟩ := box_j1 h (wrap64 (1 + v1 + v3)) (wrap64 (1 + v2 + v4)) q4 (by rw [w64 (by omega) (by omega)]; omega) (by rw [w64 (by omega) (by omega)]; omega) (by rw [w64 (by omega) (by omega)]; omega) (by rw [w64 (by omega) (by omega)]; omega) h4
      exact ⟨_, _, bl, q', Ev.step (fun k => spec_l1Rd_box.j0.eq_2 _ _ _ _ _ k) (evPos rfl (Ev.bind (ev_of e3) (Ev.bind (ev_of e4) h'))), g⟩
  by_cases c : (l.length : Int) > 60
  · obtain ⟨b, q3, e3, h3⟩ := once_ok h h2 2 (by omega)
    obtain ⟨R, C, bl, q', h', g⟩ := J b q3 h3
    exact ⟨R, C, bl, q', Ev.bind (ev_of e1) (Ev.bind (ev_of e2) (evPos c (Ev.bind (ev_of e3) h'))), g⟩
  · obtain ⟨R, C, bl, q', h', g⟩ := J false q2 h2
    exact ⟨R, C, bl, q', Ev.bind (ev_of e1) (Ev.bind (ev_of e2) (evNeg c h')), g⟩
theorem drawBox_ok {l : List Int} (h : Src l) {p : Int} (hp : At l p) : ∃ R C bl q, Ev (fun k => spec_l12DrawBox.f k l p) (R, C, bl, q) ∧ bl.length ≤ 1000 ∧ At l q := by
  simp only [spec_l12DrawBox.f]
  obtain ⟨R, C, bl, q, e, g1, g2, hq⟩ := box_ok h hp
  obtain ⟨v, q1, e1, v0, v1, h1⟩ := below_ok h hq 24 (by omega)
  by_cases c0 : v = 0
  · obtain ⟨w, q2, e2, w0, w1, h2⟩ := below_ok h h1 3 (by omega)
    exact ⟨rd [0, 25, wrap64 (R + 1)] w, C, bl, q2, Ev.bind e (Ev.bind (ev_of e1) (evPos c0 (Ev.bind (Ev.now _) (Ev.bind (ev_of e2) (evPos w0 (evPos (show w < 3 from w1) (Ev.now _))))))), g2, h2⟩
  by_cases c1 : v = 1
  · exact ⟨R, C, bl.drop (1 : Int).toNat, q1, Ev.bind e (Ev.bind (ev_of e1) (evNeg c0 (evPos c1 (evPos (show (1 : Int) ≤ (bl.length : Int) by omega) (Ev.now _))))), by rw [List.length_drop]; omega, h1⟩
  by_cases c2 : v = 2
  · obtain ⟨w, q2, e2, w0, w1, h2⟩ := below_ok h h1 4 (by omega)
    exact ⟨R, C, bl.set (0 : Int).toNat (rd [1000000000, 1000000001, (-1000000000), (-1000000001)] w), q2, Ev.bind e (Ev.bind (ev_of e1) (evNeg c0 (evNeg c1 (evPos c2 (Ev.bind (Ev.now _) (Ev.bind (ev_of e2) (evPos w0 (evPos (show w < 4 from w1) (evPos (show (0 : Int) < (bl.length : Int) by omega) (Ev.now _)))))))))), by rw [List.length_set]; exact g2, h2⟩
  · exact ⟨R, C, bl, q1, Ev.bind e (Ev.bind (ev_of e1) (evNeg c0 (evNeg c1 (evNeg c2 (Ev.now _))))), g2, h1⟩
theorem draw_ok {l : List Int} (h : Src l) : ∃ R C bl, Ev (fun k => spec_DrawDrain.f k l) (R, C, bl) ∧ bl.length ≤ 1000 := by
  simp only [spec_DrawDrain.f]
  have e0 : Ev (fun _ : Nat => spec_l1Open.f l) (l, 0) := Ev.now _
  obtain ⟨R, C, bl, q, e, g, hq⟩ := drawBox_ok h (p := 0) ⟨by omega, by omega⟩
  exact ⟨R, C, bl, Ev.bind e0 (Ev.bind e (Ev.now _)), g⟩
theorem FnDrained : laws_FnDrained.Pure := by
  intro l _ _ hb
  refine Ev.rounds ?_
  simp only [laws_FnDrained.f]
  have eb : Ev (fun _ : Nat => laws_big.f l) (decide ((l.length : Int) > 1048576)) := Ev.now _
  refine Ev.bind eb ?_
  by_cases big : decide ((l.length : Int) > 1048576) = true
  · exact evPos big (Ev.now _)
  refine evNeg big ?_
  have h : Src l := ⟨by have := big; simp at this; omega, fun x hx => by have := hb x hx; simp [Lit.wf] at this; exact this⟩
  obtain ⟨R, C, bl, e, hlen⟩ := draw_ok h
  obtain ⟨b, bs, bi, hbx⟩ := box_both R C bl (by omega)
  cases b with
  | false =>
    have ic : Ev (fun k => impl_Drain.f k R C bl) (([] : List Int), ([] : List Int)) := by
      simp only [impl_Drain.f]
      exact Ev.bind bi (evNeg (by decide) (Ev.now _))
    exact Ev.bind e (Ev.bind ic (Ev.bind bs (evNeg (by decide) (evPos rfl (Ev.now _)))))
  | true =>
    obtain ⟨r, c, rfl, rfl, r1, r2, c1, c2, hl⟩ := hbx rfl
    obtain ⟨F, X, tm, hr, id⟩ := drain_ok r c bl r1 r2 c1 c2 hl bi
    obtain ⟨out, g1, g2, g3, g4⟩ := catch_ok r1 r2 c1 c2 hl hr
    have hrc : r * c ≤ 576 := Nat.mul_le_mul r2 c2
    have L := law0 r1 r2 c1 c2 hl hr g1 g2 g3 (r * c) 0 (by omega)
    have e2 : Aside0 (wrap64 ((r : Int) * (c : Int)) = ((r * c : Nat) : Int)) := ⟨by
      rw [← Int.natCast_mul]
      exact w64 (by omega) (by omega)⟩
    have hlF := hr.lF
    have hlX := hr.lX
    refine Ev.bind e (Ev.bind id (Ev.bind bs (evPos rfl ?_)))
    dsimp only
    rw [e2.out]
    refine evPos (by omega) ?_
    rw [show ((X.length : Int) != ((r * c : Nat) : Int)) = false from bne_eq_false_iff_eq.2 (by omega)]
    refine Ev.step (fun k => laws_FnDrained.j0.eq_2 _ _ _ _ _ _ _ k) (evNeg (by decide) (Ev.bind g4 (evPos rfl ?_)))
    dsimp only
    rw [show ((out.length : Int) != ((r * c : Nat) : Int)) = false from bne_eq_false_iff_eq.2 (by omega)]
    exact Ev.step (fun k => laws_FnDrained.j1.eq_2 _ _ _ _ _ _ _ _ k) (evNeg (by decide) L)
end Go.Proofs.Ytcdghhihfjojaab.Pure
