/- The plain statement of the law FnExactCells: program and reference number the same cells of every box alike, and hand back a list of their own; no condition. -/
import Derived.Test.YtcdghhihfjojaabI64
import Derived.Test.YtcdghhihfjojaabInAll
import Derived.Test.YtcdghhihfjojaabQx1
import Derived.Test.YtcdghhihfjojaabQx10
import Derived.Test.YtcdghhihfjojaabQx11
import Derived.Test.YtcdghhihfjojaabQx12
import Derived.Test.YtcdghhihfjojaabQx14
import Derived.Test.YtcdghhihfjojaabQx16
import Derived.Test.YtcdghhihfjojaabQx18
import Derived.Test.YtcdghhihfjojaabQx2
import Derived.Test.YtcdghhihfjojaabQx4
import Derived.Test.YtcdghhihfjojaabQx5
import Derived.Test.YtcdghhihfjojaabQx6
import Derived.Test.YtcdghhihfjojaabQx8
set_option linter.unusedVariables false
set_option linter.unusedSectionVars false
set_option linter.unusedSimpArgs false
namespace Go.Proofs.Ytcdghhihfjojaab.Pure
open Go.RowKit Go.Proofs.Ytcdghhihfjojaab.Q Go.Proofs.Ytcdghhihfjojaab.Gen Go.Proofs.YtcdghhihfjojaabW.PrintWords Go.Proofs.YtcdghhihfjojaabW.PrintMore

theorem down1 {j : Nat} (h0 : 0 < j) (h : j < 4611686018427387904) : wrap64 ((j : Int) - 1) = ((j - 1 : Nat) : Int) := by unfold wrap64; omega

/-! a box that is well formed -/
theorem box_both (R C : Int) (l : List Int) (h : l.length ≤ 1048576) : ∃ b : Bool, Ev (fun k => spec_BoxOk.f k R C l) b ∧ Ev (fun k => impl_BoxOk.f k R C l) b ∧ (b = true → ∃ r c : Nat, R = r ∧ C = c ∧ 1 ≤ r ∧ r ≤ 24 ∧ 1 ≤ c ∧ c ≤ 24 ∧ l.length = r * c) := by
  simp only [spec_BoxOk.f, impl_BoxOk.f, l2In_s, in_s, Option.bind_some]
  have noS : Ev (fun k => spec_BoxOk.j0 k true R C l) false := Ev.step (fun k => spec_BoxOk.j0.eq_2 _ _ _ _ k) (evPos rfl (Ev.now _))
  have noI : Ev (fun k => impl_BoxOk.j0 k true R C l) false := Ev.step (fun k => impl_BoxOk.j0.eq_2 _ _ _ _ k) (evPos rfl (Ev.now _))
  by_cases c1 : inS R 1 24 = true
  rotate_left
  · exact ⟨false, evNeg c1 noS, evNeg c1 noI, fun h => by cases h⟩
  by_cases c2 : inS C 1 24 = true
  rotate_left
  · exact ⟨false, evPos c1 (evNeg c2 noS), evPos c1 (evNeg c2 noI), fun h => by cases h⟩
  by_cases c3 : ((l.length : Int) != wrap64 (R * C)) = true
  · exact ⟨false, evPos c1 (evPos c2 (by rw [c3]; exact noS)), evPos c1 (evPos c2 (by rw [c3]; exact noI)), fun h => by cases h⟩
  rw [Bool.not_eq_true] at c3
  have d1 := (inS_iff _ _ _).1 c1
  have d2 := (inS_iff _ _ _).1 c2
  obtain ⟨r, rfl⟩ := Int.eq_ofNat_of_zero_le (show 0 ≤ R by omega)
  obtain ⟨c, rfl⟩ := Int.eq_ofNat_of_zero_le (show 0 ≤ C by omega)
  have hrc : r * c ≤ 24 * 24 := Nat.mul_le_mul (by omega) (by omega)
  have hl : l.length = r * c := by
    rw [bne_eq_false_iff_eq, ← Int.natCast_mul, w64 (by omega) (by omega)] at c3
    omega
  have main : ∀ t j, j + t = l.length → ∃ b : Bool, Ev (fun k => spec_BoxOk.l0 k (j : Int) (r : Int) (c : Int) l) b ∧ Ev (fun k => impl_BoxOk.l0 k l (l.length : Int) (j : Int)) b := by
    intro t
    induction t with
    | zero => intro j hj; exact ⟨true, Ev.step (fun k => spec_BoxOk.l0.eq_2 _ _ _ _ k) (evNeg (by omega) (Ev.now _)), Ev.step (fun k => impl_BoxOk.l0.eq_2 _ _ _ k) (evNeg (by omega) (Ev.now _))⟩
    | succ t ih =>
      intro j hj
      obtain ⟨b, hs, hi⟩ := ih (j + 1) (by omega)
      have u := up1 (j := j) (by omega)
      replace u := Aside0.mk u
      by_cases q : inS (rd l (j : Int)) (-1000000000) 1000000000 = true
      · refine ⟨b, Ev.step (fun k => spec_BoxOk.l0.eq_2 _ _ _ _ k) (evPos (by omega) (evPos (by omega) ?_)), Ev.step (fun k => impl_BoxOk.l0.eq_2 _ _ _ k) (evPos (by omega) (evPos (by omega) (evPos (by omega) ?_)))⟩
        · simp only [l2In_s, q, Option.bind_some]
          rw [u.out]; exact evPos trivial hs
        · simp only [in_s, q, Option.bind_some]
          rw [u.out]; exact evPos trivial hi
      · rw [Bool.not_eq_true] at q
        refine ⟨false, Ev.step (fun k => spec_BoxOk.l0.eq_2 _ _ _ _ k) (evPos (by omega) (evPos (by omega) ?_)), Ev.step (fun k => impl_BoxOk.l0.eq_2 _ _ _ k) (evPos (by omega) (evPos (by omega) (evPos (by omega) ?_)))⟩
        · simp only [l2In_s, q, Option.bind_some]
          exact evNeg (by decide) (Ev.now _)
        · simp only [in_s, q, Option.bind_some]
          exact evNeg (by decide) (Ev.now _)
  obtain ⟨b, hs, hi⟩ := main l.length 0 (by omega)
  refine ⟨b, evPos c1 (evPos c2 ?_), evPos c1 (evPos c2 ?_), fun _ => ⟨r, c, rfl, rfl, by omega, by omega, by omega, by omega, hl⟩⟩
  · rw [c3]; exact Ev.step (fun k => spec_BoxOk.j0.eq_2 _ _ _ _ k) (evNeg (by decide) hs)
  · rw [c3]; exact Ev.step (fun k => impl_BoxOk.j0.eq_2 _ _ _ _ k) (evNeg (by decide) hi)

/-! how many cells have no number yet -/
def zs : List Int → Nat
  | [] => 0
  | x :: l => (if x = 0 then 1 else 0) + zs l
theorem zs_le : ∀ l : List Int, zs l ≤ l.length := by
  intro l
  induction l with
  | nil => exact Nat.le_refl _
  | cons x l ih => unfold zs; rw [List.length_cons]; split <;> omega
theorem zs_set (v : Int) (hv : v ≠ 0) : ∀ (l : List Int) (i : Nat), i < l.length → l.getD i 0 = 0 → zs (l.set i v) + 1 = zs l := by
  intro l
  induction l with
  | nil => intro i hi; simp at hi
  | cons x l ih =>
    intro i hi h
    cases i with
    | zero =>
      have hx : x = 0 := by simpa using h
      simp only [List.set_cons_zero, zs]
      rw [if_neg hv, if_pos hx]; omega
    | succ i =>
      have := ih i (by simpa using hi) (by simpa using h)
      simp only [List.set_cons_succ, zs]
      omega
theorem rd_set (l : List Int) (i : Nat) (v : Int) (j : Nat) (h : i < l.length) : rd (l.set i v) (j : Int) = if j = i then v else rd l (j : Int) := by
  rw [rd_nat, rd_nat, List.getD_eq_getElem?_getD, List.getD_eq_getElem?_getD, List.getElem?_set]
  by_cases c : i = j
  · subst c; simp [h]
  · rw [if_neg c, if_neg (fun e => c e.symm)]

section
variable (cells : List Int) (R C : Nat) (lv : Int)
/-- One cell looked at: it gets the number, and waits, where it is high and has none. -/
def push (num : Int) (st : List Int × List Int) (s : Int) : List Int × List Int := if rd st.1 s = 0 then (if rd cells s ≥ lv then (st.1.set s.toNat num, st.2 ++ [s]) else st) else st
/-- The cells beside. -/
def S (c : Nat) : List Int := (if c / C < R - 1 then [((c + C : Nat) : Int)] else []) ++ (if c % C < C - 1 then [((c + 1 : Nat) : Int)] else []) ++ (if c / C > 0 then [((c - C : Nat) : Int)] else []) ++ (if c % C > 0 then [((c - 1 : Nat) : Int)] else [])
structure Inv (n : Nat) (st : List Int × List Int) : Prop where
  len : st.1.length = n
  pos : ∀ i : Nat, 0 ≤ rd st.1 (i : Int)
  inn : ∀ s ∈ st.2, 0 ≤ s ∧ s < (n : Int)
  room : st.2.length + zs st.1 ≤ n
theorem push_inv {n : Nat} {num : Int} (hn : 0 < num) {st : List Int × List Int} {s : Int} (h : Inv n st) (h0 : 0 ≤ s) (h1 : s < (n : Int)) : Inv n (push cells lv num st s) ∧ zs (push cells lv num st s).1 ≤ zs st.1 ∧ 2 * zs (push cells lv num st s).1 + (push cells lv num st s).2.length ≤ 2 * zs st.1 + st.2.length := by
  unfold push
  by_cases c1 : rd st.1 s = 0
  rotate_left
  · rw [if_neg c1]; exact ⟨h, Nat.le_refl _, Nat.le_refl _⟩
  rw [if_pos c1]
  by_cases c2 : rd cells s ≥ lv
  rotate_left
  · rw [if_neg c2]; exact ⟨h, Nat.le_refl _, Nat.le_refl _⟩
  rw [if_pos c2]
  obtain ⟨m, rfl⟩ := Int.eq_ofNat_of_zero_le h0
  rw [Int.toNat_natCast]
  have hl := h.len
  have z := zs_set num (by omega) st.1 m (by omega) (by rw [← rd_nat]; exact c1)
  refine ⟨⟨by simpa using hl, fun i => ?_, fun s hs => ?_, ?_⟩, by show zs (st.1.set m num) ≤ zs st.1; omega, ?_⟩
  · rw [rd_set _ _ _ _ (by omega)]
    split
    · omega
    · exact h.pos i
  · rcases List.mem_append.1 hs with hs | hs
    · exact h.inn s hs
    · rw [List.mem_singleton.1 hs]; omega
  · have := h.room
    simp
    omega
  · simp
    omega
theorem fold_inv {n : Nat} {num : Int} (hn : 0 < num) : ∀ (L : List Int) (st : List Int × List Int), (∀ s ∈ L, 0 ≤ s ∧ s < (n : Int)) → Inv n st → Inv n (L.foldl (push cells lv num) st) ∧ zs (L.foldl (push cells lv num) st).1 ≤ zs st.1 ∧ 2 * zs (L.foldl (push cells lv num) st).1 + (L.foldl (push cells lv num) st).2.length ≤ 2 * zs st.1 + st.2.length := by
  intro L
  induction L with
  | nil => intro st _ h; exact ⟨h, Nat.le_refl _, Nat.le_refl _⟩
  | cons s L ih =>
    intro st hL h
    obtain ⟨h1, h2⟩ := hL s List.mem_cons_self
    obtain ⟨p1, p2, p3⟩ := push_inv cells lv hn h h1 h2
    obtain ⟨q1, q2, q3⟩ := ih (push cells lv num st s) (fun s hs => hL s (List.mem_cons_of_mem _ hs)) p1
    exact ⟨q1, Nat.le_trans q2 p2, Nat.le_trans q3 p3⟩
end

theorem place {R C c : Nat} (hC : 1 ≤ C) (hc : c < R * C) : c / C < R ∧ c % C < C ∧ c = (c / C) * C + c % C ∧ ((c / C < R - 1) → c + C < R * C) := by
  have h1 : c / C < R := Nat.div_lt_of_lt_mul (by rw [Nat.mul_comm]; exact hc)
  have h2 := Nat.mod_lt c hC
  have h3 := Nat.div_add_mod c C
  rw [Nat.mul_comm] at h3
  refine ⟨h1, h2, h3.symm, fun h => ?_⟩
  generalize c / C = q at h h1 h3
  have h4 := Nat.mul_le_mul_right C (show q + 1 + 1 ≤ R by omega)
  rw [Nat.add_mul, Nat.add_mul] at h4
  omega

section
variable {cells : List Int} {R C : Nat} (hR1 : 1 ≤ R) (hR : R ≤ 24) (hC1 : 1 ≤ C) (hC : C ≤ 24) (hn : cells.length = R * C) (lv : Int)
include hR1 hR hC1 hC hn
theorem nle : R * C ≤ 576 := Nat.mul_le_mul hR hC
theorem S_in {c : Nat} (hc : c < R * C) : ∀ s ∈ S R C c, 0 ≤ s ∧ s < ((R * C : Nat) : Int) := by
  obtain ⟨p1, p2, p3, p4⟩ := place hC1 hc
  intro s hs
  unfold S at hs
  have hpos : c / C > 0 → C ≤ c := fun h => by
    have := Nat.mul_le_mul_right C (show 1 ≤ c / C by omega)
    omega
  simp only [List.mem_append] at hs
  have hm : c % C < C - 1 → c + 1 < R * C := fun h => by
    have h4 := Nat.mul_le_mul_right C (show c / C + 1 ≤ R by omega)
    rw [Nat.add_mul] at h4
    omega
  rcases hs with ((hs | hs) | hs) | hs
  · split at hs
    · rename_i q; have := p4 q; simp at hs; omega
    · simp at hs
  · split at hs
    · rename_i q; have := hm q; simp at hs; omega
    · simp at hs
  · split at hs
    · rename_i q; have := hpos q; simp at hs; omega
    · simp at hs
  · split at hs
    · rename_i q; simp at hs; have : c % C ≤ c := Nat.mod_le _ _; omega
    · simp at hs

theorem sides_ok {c : Nat} (hc : c < R * C) : Ev (fun k => spec_l13Sides.f k (R : Int) (C : Int) cells (c : Int)) (S R C c) := by
  have hb := nle hR1 hR hC1 hC hn
  obtain ⟨p1, p2, p3, p4⟩ := place hC1 hc
  have hpos : c / C > 0 → C ≤ c := fun h => by
    have := Nat.mul_le_mul_right C (show 1 ≤ c / C by omega)
    omega
  have e1 : wrap64 (Int.tdiv (c : Int) (C : Int)) = ((c / C : Nat) : Int) := by
    have e : Int.tdiv (c : Int) (C : Int) = ((c / C : Nat) : Int) := rfl
    rw [e]
    generalize c / C = q at p1
    exact w64 (by omega) (by omega)
  have e2 : Int.tmod (c : Int) (C : Int) = ((c % C : Nat) : Int) := rfl
  have e3 : wrap64 ((R : Int) - 1) = ((R - 1 : Nat) : Int) := down1 (by omega) (by omega)
  have e4 : wrap64 ((C : Int) - 1) = ((C - 1 : Nat) : Int) := down1 (by omega) (by omega)
  replace e1 := Aside0.mk e1
  replace e3 := Aside0.mk e3
  replace e4 := Aside0.mk e4
  have e5 : Aside0 (wrap64 ((c : Int) + (C : Int)) = ((c + C : Nat) : Int)) := ⟨by rw [w64 (by omega) (by omega)]; omega⟩
  have e6 : Aside0 (wrap64 ((c : Int) + 1) = ((c + 1 : Nat) : Int)) := ⟨up1 (by omega)⟩
  have e7 : c / C > 0 → Aside0 (wrap64 ((c : Int) - (C : Int)) = ((c - C : Nat) : Int)) := fun h => ⟨by have := hpos h; rw [w64 (by omega) (by omega)]; omega⟩
  have e8 : c % C > 0 → Aside0 (wrap64 ((c : Int) - 1) = ((c - 1 : Nat) : Int)) := fun h => ⟨by have : c % C ≤ c := Nat.mod_le _ _; exact down1 (by omega) (by omega)⟩
  generalize hi : c / C = i at *
  generalize hj : c % C = j at *
  have J1 : ∀ o : List Int, o.length ≤ 2 → Ev (fun k => spec_l13Sides.j1 k (c : Int) o (i : Int) (j : Int) (R : Int) (C : Int) cells) (o ++ (if i > 0 then [((c - C : Nat) : Int)] else []) ++ (if j > 0 then [((c - 1 : Nat) : Int)] else [])) := by
    intro o ho
    have ho2 : o.length < 17592186044416 := by omega
    refine Ev.step (fun k => spec_l13Sides.j1.eq_2 _ _ _ _ _ _ _ k) ?_
    by_cases q : i > 0
    · rw [if_pos q]
      refine evPos (by omega) (evPos ho2 ?_)
      rw [(e7 q).out]
      simp only [Option.bind_some]
      by_cases q2 : j > 0
      · rw [if_pos q2]
        refine evPos (by omega) (evPos (by simp; omega) ?_)
        rw [(e8 q2).out]
        exact Ev.now _
      · rw [if_neg q2, List.append_nil]
        exact evNeg (by omega) (Ev.now _)
    · rw [if_neg q, List.append_nil]
      refine evNeg (by omega) ?_
      by_cases q2 : j > 0
      · rw [if_pos q2]
        refine evPos (by omega) (evPos ho2 ?_)
        rw [(e8 q2).out]
        exact Ev.now _
      · rw [if_neg q2, List.append_nil]
        exact evNeg (by omega) (Ev.now _)
  have J0 : ∀ o : List Int, o.length ≤ 1 → Ev (fun k => spec_l13Sides.j0 k (c : Int) o (i : Int) (j : Int) (R : Int) (C : Int) cells) (o ++ (if j < C - 1 then [((c + 1 : Nat) : Int)] else []) ++ (if i > 0 then [((c - C : Nat) : Int)] else []) ++ (if j > 0 then [((c - 1 : Nat) : Int)] else [])) := by
    intro o ho
    refine Ev.step (fun k => spec_l13Sides.j0.eq_2 _ _ _ _ _ _ _ k) ?_
    rw [e4.out, e6.out]
    by_cases q : j < C - 1
    · rw [if_pos q]
      exact evPos (by omega) (evPos (by omega) (J1 _ (by simp; omega)))
    · rw [if_neg q, List.append_nil]
      exact evNeg (by omega) (J1 _ (by omega))
  simp only [spec_l13Sides.f, Option.bind_some]
  rw [e1.out, e2, e3.out, e5.out]
  refine evNeg (by omega) ?_
  unfold S
  rw [hi, hj]
  by_cases q : i < R - 1
  · rw [if_pos q]
    exact evPos (by omega) (evPos (by simp) (J0 _ (by simp)))
  · rw [if_neg q]
    exact evNeg (by omega) (J0 _ (by simp))

theorem side_loop (num : Int) (k0 : Int) (L : List Int) (hL : L.length ≤ 4) (hS : ∀ s ∈ L, 0 ≤ s ∧ s < ((R * C : Nat) : Int)) (hnum : 0 < num) (X : List Int) : ∀ t j (st : List Int × List Int), j + t = L.length → Inv (R * C) st → Ev (fun k => spec_Cells.l2 k lv ((L.drop j).foldl (push cells lv num) st).1 num k0 ((L.drop j).foldl (push cells lv num) st).2 (R : Int) (C : Int) cells) X → Ev (fun k => spec_Cells.l3 k lv st.1 num k0 st.2 L (j : Int) (R : Int) (C : Int) cells) X := by
  have hb := nle hR1 hR hC1 hC hn
  intro t
  induction t with
  | zero =>
    intro j st hj hI h
    rw [List.drop_of_length_le (by omega)] at h
    exact Ev.step (fun k => spec_Cells.l3.eq_2 _ _ _ _ _ _ _ _ _ _ k) (evNeg (by omega) h)
  | succ t ih =>
    intro j st hj hI h
    have hjl : j < L.length := by omega
    rw [List.drop_eq_getElem_cons hjl, List.foldl_cons] at h
    have es : rd L (j : Int) = L[j] := by rw [rd_nat, List.getD_eq_getElem?_getD, List.getElem?_eq_getElem hjl]; rfl
    obtain ⟨s0, s1⟩ := hS L[j] (List.getElem_mem hjl)
    obtain ⟨p1, _, _⟩ := push_inv cells lv hnum hI s0 s1
    have IH := ih (j + 1) (push cells lv num st L[j]) (by omega) p1 h
    have hl := hI.len
    have hr := hI.room
    have hz := zs_le st.1
    have u := up1 (j := j) (by omega)
    replace u := Aside0.mk u
    refine Ev.step (fun k => spec_Cells.l3.eq_2 _ _ _ _ _ _ _ _ _ _ k) (evPos (by omega) (evPos (by omega) ?_))
    rw [es, u.out]
    generalize L[j] = s at s0 s1 IH
    refine evPos s0 (evPos (by omega) ?_)
    unfold push at IH
    by_cases c1 : rd st.1 s = 0
    · rw [if_pos c1] at IH
      refine evPos c1 (evPos (by omega) ?_)
      by_cases c2 : rd cells s ≥ lv
      · rw [if_pos c2] at IH
        exact evPos c2 (evPos (by omega) IH)
      · rw [if_neg c2] at IH
        exact evNeg c2 IH
    · rw [if_neg c1] at IH
      exact evNeg c1 IH

theorem high_in (i j : Nat) (hi : i < R) (hj : j < C) : impl_Box_high.f (R : Int) (C : Int) cells (i : Int) (j : Int) lv = some (decide (rd cells ((i * C + j : Nat) : Int) ≥ lv)) := by
  have hb := nle hR1 hR hC1 hC hn
  have h4 := Nat.mul_le_mul_right C (show i + 1 ≤ R by omega)
  rw [Nat.add_mul] at h4
  simp only [impl_Box_high.f, in_s, Option.bind_some]
  rw [down1 (by omega) (by omega), down1 (by omega) (by omega), ← Int.natCast_mul]
  generalize i * C = p at h4 ⊢
  rw [if_pos ((inS_iff _ _ _).2 (by omega)), if_pos ((inS_iff _ _ _).2 (by omega)), w64 (x := (p : Int)) (by omega) (by omega), w64 (by omega) (by omega), show (p : Int) + (j : Int) = ((p + j : Nat) : Int) by omega, if_pos (by omega), if_pos (by omega)]
theorem high_out (y x : Int) (h : ¬ (0 ≤ y ∧ y ≤ (R : Int) - 1 ∧ 0 ≤ x ∧ x ≤ (C : Int) - 1)) : impl_Box_high.f (R : Int) (C : Int) cells y x lv = some false := by
  simp only [impl_Box_high.f, in_s, Option.bind_some]
  rw [down1 (by omega) (by omega), down1 (by omega) (by omega)]
  by_cases c1 : inS y 0 ((R - 1 : Nat) : Int) = true
  · rw [if_pos c1, if_neg]
    intro c2
    rw [inS_iff] at c1 c2
    omega
  · rw [if_neg c1]

def dirs : List S60 := [(⟨1, 0⟩ : S60), (⟨0, 1⟩ : S60), (⟨(-1), 0⟩ : S60), (⟨0, (-1)⟩ : S60)]
theorem dir_in (num : Int) (n k0 : Int) (i j : Nat) (hi : i < 24) (hj : j < 24) (st : List Int × List Int) (hI : Inv (R * C) st) (X : List Int) (t : Nat) (ht : t < 4) (d0 d1 : Int) (hd : rd_T60 dirs (t : Int) = ⟨d0, d1⟩) (hd0 : -1 ≤ d0 ∧ d0 ≤ 1) (hd1 : -1 ≤ d1 ∧ d1 ≤ 1) (i' j' : Nat) (hi' : (i : Int) + d0 = (i' : Int)) (hj' : (j : Int) + d1 = (j' : Int)) (hi2 : i' < R) (hj2 : j' < C)
    (h : Ev (fun k => impl_Cells.l2 k lv (push cells lv num st ((i' * C + j' : Nat) : Int)).1 num (push cells lv num st ((i' * C + j' : Nat) : Int)).2 (i : Int) (j : Int) n k0 dirs 4 ((t + 1 : Nat) : Int) (R : Int) (C : Int) cells) X) : Ev (fun k => impl_Cells.l2 k lv st.1 num st.2 (i : Int) (j : Int) n k0 dirs 4 (t : Int) (R : Int) (C : Int) cells) X := by
  have hb := nle hR1 hR hC1 hC hn
  have hl := hI.len
  have hr := hI.room
  have hz := zs_le st.1
  have H := high_in hR1 hR hC1 hC hn lv i' j' hi2 hj2
  have h4 := Nat.mul_le_mul_right C (show i' + 1 ≤ R by omega)
  rw [Nat.add_mul] at h4
  have u := up1 (j := t) (by omega)
  replace u := Aside0.mk u
  have a1 : Aside0 (wrap64 ((i : Int) + d0) = (i' : Int)) := ⟨by rw [hi', w64 (by omega) (by omega)]⟩
  have a2 : Aside0 (wrap64 ((j : Int) + d1) = (j' : Int)) := ⟨by rw [hj', w64 (by omega) (by omega)]⟩
  have a3 : Aside0 (wrap64 (wrap64 ((i' : Int) * (C : Int)) + (j' : Int)) = ((i' * C + j' : Nat) : Int)) := ⟨by
    rw [← Int.natCast_mul]
    generalize i' * C = p at h4
    rw [w64 (x := (p : Int)) (by omega) (by omega), w64 (by omega) (by omega)]; omega⟩
  refine Ev.step (fun k => impl_Cells.l2.eq_2 _ _ _ _ _ _ _ _ _ _ _ _ _ _ k) (evPos (by omega) (evPos (by omega) (evPos (by simp [dirs]; omega) ?_)))
  rw [hd]
  dsimp only
  rw [a1.out, a2.out, u.out, a3.out, H]
  simp only [Option.bind_some]
  unfold push at h
  by_cases c2 : rd cells ((i' * C + j' : Nat) : Int) ≥ lv
  · refine evPos (decide_eq_true c2) (evPos (by omega) (evPos (by omega) ?_))
    rw [if_pos c2] at h
    by_cases c1 : rd st.1 ((i' * C + j' : Nat) : Int) = 0
    · rw [if_pos c1] at h
      exact evPos c1 (evPos (by omega) h)
    · rw [if_neg c1] at h
      exact evNeg c1 h
  · refine evNeg (by rw [decide_eq_false c2]; decide) ?_
    rw [if_neg c2] at h
    by_cases c1 : rd st.1 ((i' * C + j' : Nat) : Int) = 0
    · rw [if_pos c1] at h; exact h
    · rw [if_neg c1] at h; exact h
theorem dir_out (num : Int) (n k0 : Int) (i j : Nat) (hi : i < 24) (hj : j < 24) (st : List Int × List Int) (X : List Int) (t : Nat) (ht : t < 4) (d0 d1 : Int) (hd : rd_T60 dirs (t : Int) = ⟨d0, d1⟩) (hd0 : -1 ≤ d0 ∧ d0 ≤ 1) (hd1 : -1 ≤ d1 ∧ d1 ≤ 1) (ho : ¬ (0 ≤ (i : Int) + d0 ∧ (i : Int) + d0 ≤ (R : Int) - 1 ∧ 0 ≤ (j : Int) + d1 ∧ (j : Int) + d1 ≤ (C : Int) - 1))
    (h : Ev (fun k => impl_Cells.l2 k lv st.1 num st.2 (i : Int) (j : Int) n k0 dirs 4 ((t + 1 : Nat) : Int) (R : Int) (C : Int) cells) X) : Ev (fun k => impl_Cells.l2 k lv st.1 num st.2 (i : Int) (j : Int) n k0 dirs 4 (t : Int) (R : Int) (C : Int) cells) X := by
  have H := high_out hR1 hR hC1 hC hn lv _ _ ho
  have u := up1 (j := t) (by omega)
  replace u := Aside0.mk u
  have a1 : Aside0 (wrap64 ((i : Int) + d0) = (i : Int) + d0) := ⟨w64 (by omega) (by omega)⟩
  have a2 : Aside0 (wrap64 ((j : Int) + d1) = (j : Int) + d1) := ⟨w64 (by omega) (by omega)⟩
  refine Ev.step (fun k => impl_Cells.l2.eq_2 _ _ _ _ _ _ _ _ _ _ _ _ _ _ k) (evPos (by omega) (evPos (by omega) (evPos (by simp [dirs]; omega) ?_)))
  rw [hd]
  dsimp only
  rw [a1.out, a2.out, u.out, H]
  simp only [Option.bind_some]
  exact evNeg (by decide) h

theorem four_dirs (num : Int) (hnum : 0 < num) (n k0 : Int) {c : Nat} (hc : c < R * C) (st : List Int × List Int) (hI : Inv (R * C) st) (X : List Int) (h : Ev (fun k => impl_Cells.l1 k lv ((S R C c).foldl (push cells lv num) st).1 num ((S R C c).foldl (push cells lv num) st).2 n k0 (R : Int) (C : Int) cells) X) :
    Ev (fun k => impl_Cells.l2 k lv st.1 num st.2 ((c / C : Nat) : Int) ((c % C : Nat) : Int) n k0 dirs 4 0 (R : Int) (C : Int) cells) X := by
  obtain ⟨p1, p2, p3, p4⟩ := place hC1 hc
  have hS := S_in hR1 hR hC1 hC hn hc
  have hpos : c / C > 0 → C ≤ c := fun h => by
    have := Nat.mul_le_mul_right C (show 1 ≤ c / C by omega)
    omega
  have hmod : c % C ≤ c := Nat.mod_le _ _
  unfold S at h hS
  rw [List.foldl_append, List.foldl_append, List.foldl_append] at h
  have hS' : ∀ s, (s ∈ (if c / C < R - 1 then [((c + C : Nat) : Int)] else []) ∨ s ∈ (if c % C < C - 1 then [((c + 1 : Nat) : Int)] else []) ∨ s ∈ (if c / C > 0 then [((c - C : Nat) : Int)] else []) ∨ s ∈ (if c % C > 0 then [((c - 1 : Nat) : Int)] else [])) → 0 ≤ s ∧ s < ((R * C : Nat) : Int) := by
    intro s hs
    apply hS
    simp only [List.mem_append, or_assoc]
    exact hs
  clear hS
  generalize hi : c / C = i at *
  generalize hj : c % C = j at *
  -- the states between
  generalize g1 : (if i < R - 1 then [((c + C : Nat) : Int)] else []) = L1 at *
  generalize g2 : (if j < C - 1 then [((c + 1 : Nat) : Int)] else []) = L2 at *
  generalize g3 : (if i > 0 then [((c - C : Nat) : Int)] else []) = L3 at *
  generalize g4 : (if j > 0 then [((c - 1 : Nat) : Int)] else []) = L4 at *
  obtain ⟨I1, _, _⟩ := fold_inv cells lv hnum L1 st (fun s hs => hS' s (.inl hs)) hI
  obtain ⟨I2, _, _⟩ := fold_inv cells lv hnum L2 _ (fun s hs => hS' s (.inr (.inl hs))) I1
  obtain ⟨I3, _, _⟩ := fold_inv cells lv hnum L3 _ (fun s hs => hS' s (.inr (.inr (.inl hs)))) I2
  generalize e1 : L1.foldl (push cells lv num) st = s1 at *
  generalize e2 : L2.foldl (push cells lv num) s1 = s2 at *
  generalize e3 : L3.foldl (push cells lv num) s2 = s3 at *
  generalize e4 : L4.foldl (push cells lv num) s3 = s4 at *
  have fin : Ev (fun k => impl_Cells.l2 k lv s4.1 num s4.2 (i : Int) (j : Int) n k0 dirs 4 ((3 + 1 : Nat) : Int) (R : Int) (C : Int) cells) X := Ev.step (fun k => impl_Cells.l2.eq_2 _ _ _ _ _ _ _ _ _ _ _ _ _ _ k) (evNeg (by decide) h)
  have D3 : Ev (fun k => impl_Cells.l2 k lv s3.1 num s3.2 (i : Int) (j : Int) n k0 dirs 4 ((3 : Nat) : Int) (R : Int) (C : Int) cells) X := by
    by_cases q : j > 0
    · rw [if_pos q] at g4
      refine dir_in hR1 hR hC1 hC hn lv num n k0 i j (by omega) (by omega) s3 I3 X 3 (by omega) 0 (-1) rfl (by omega) (by omega) i (j - 1) (by omega) (by omega) p1 (by omega) ?_
      have e : ((i * C + (j - 1) : Nat) : Int) = ((c - 1 : Nat) : Int) := by omega
      rw [e]
      rw [← g4] at e4
      rw [show push cells lv num s3 ((c - 1 : Nat) : Int) = s4 from e4]
      exact fin
    · rw [if_neg q] at g4
      rw [← g4] at e4
      rw [show s3 = s4 from e4]
      exact dir_out hR1 hR hC1 hC hn lv num n k0 i j (by omega) (by omega) s4 X 3 (by omega) 0 (-1) rfl (by omega) (by omega) (by omega) fin
  have D2 : Ev (fun k => impl_Cells.l2 k lv s2.1 num s2.2 (i : Int) (j : Int) n k0 dirs 4 ((2 : Nat) : Int) (R : Int) (C : Int) cells) X := by
    by_cases q : i > 0
    · rw [if_pos q] at g3
      refine dir_in hR1 hR hC1 hC hn lv num n k0 i j (by omega) (by omega) s2 I2 X 2 (by omega) (-1) 0 rfl (by omega) (by omega) (i - 1) j (by omega) (by omega) (by omega) p2 ?_
      have e : (((i - 1) * C + j : Nat) : Int) = ((c - C : Nat) : Int) := by
        obtain ⟨m, rfl⟩ : ∃ m, i = m + 1 := ⟨i - 1, by omega⟩
        rw [Nat.add_sub_cancel]
        rw [Nat.succ_mul] at p3
        omega
      rw [e]
      rw [← g3] at e3
      rw [show push cells lv num s2 ((c - C : Nat) : Int) = s3 from e3]
      exact D3
    · rw [if_neg q] at g3
      rw [← g3] at e3
      rw [show s2 = s3 from e3]
      exact dir_out hR1 hR hC1 hC hn lv num n k0 i j (by omega) (by omega) s3 X 2 (by omega) (-1) 0 rfl (by omega) (by omega) (by omega) D3
  have D1 : Ev (fun k => impl_Cells.l2 k lv s1.1 num s1.2 (i : Int) (j : Int) n k0 dirs 4 ((1 : Nat) : Int) (R : Int) (C : Int) cells) X := by
    by_cases q : j < C - 1
    · rw [if_pos q] at g2
      refine dir_in hR1 hR hC1 hC hn lv num n k0 i j (by omega) (by omega) s1 I1 X 1 (by omega) 0 1 rfl (by omega) (by omega) i (j + 1) (by omega) (by omega) p1 (by omega) ?_
      have e : ((i * C + (j + 1) : Nat) : Int) = ((c + 1 : Nat) : Int) := by omega
      rw [e]
      rw [← g2] at e2
      rw [show push cells lv num s1 ((c + 1 : Nat) : Int) = s2 from e2]
      exact D2
    · rw [if_neg q] at g2
      rw [← g2] at e2
      rw [show s1 = s2 from e2]
      exact dir_out hR1 hR hC1 hC hn lv num n k0 i j (by omega) (by omega) s2 X 1 (by omega) 0 1 rfl (by omega) (by omega) (by omega) D2
  by_cases q : i < R - 1
  · rw [if_pos q] at g1
    refine dir_in hR1 hR hC1 hC hn lv num n k0 i j (by omega) (by omega) st hI X 0 (by omega) 1 0 rfl (by omega) (by omega) (i + 1) j (by omega) (by omega) (by omega) p2 ?_
    have e : (((i + 1) * C + j : Nat) : Int) = ((c + C : Nat) : Int) := by
      rw [Nat.succ_mul]
      omega
    rw [e]
    rw [← g1] at e1
    rw [show push cells lv num st ((c + C : Nat) : Int) = s1 from e1]
    exact D1
  · rw [if_neg q] at g1
    rw [← g1] at e1
    rw [show st = s1 from e1]
    exact dir_out hR1 hR hC1 hC hn lv num n k0 i j (by omega) (by omega) s1 X 0 (by omega) 1 0 rfl (by omega) (by omega) (by omega) D1

theorem bfs (x7 : Nat) (hx : x7 + 1 ≤ 576) (k0 : Nat) (hk : k0 < R * C) (n : Int) (z0 : Nat)
    (cont : ∀ out : List Int, Inv (R * C) (out, []) → zs out ≤ z0 → ∃ r : List Int, Ev (fun k => spec_Cells.l1 k lv out ((x7 + 1 : Nat) : Int) ((k0 + 1 : Nat) : Int) (R : Int) (C : Int) cells) r ∧ Ev (fun k => impl_Cells.l0 k lv out ((x7 + 1 : Nat) : Int) n ((k0 + 1 : Nat) : Int) (R : Int) (C : Int) cells) r ∧ r.length ≤ 1048576) :
    ∀ (m : Nat) (st : List Int × List Int), 2 * zs st.1 + st.2.length = m → Inv (R * C) st → zs st.1 ≤ z0 → ∃ r : List Int, Ev (fun k => spec_Cells.l2 k lv st.1 ((x7 + 1 : Nat) : Int) (k0 : Int) st.2 (R : Int) (C : Int) cells) r ∧ Ev (fun k => impl_Cells.l1 k lv st.1 ((x7 + 1 : Nat) : Int) st.2 n (k0 : Int) (R : Int) (C : Int) cells) r ∧ r.length ≤ 1048576 := by
  have hb := nle hR1 hR hC1 hC hn
  intro m
  induction m using Nat.strongRecOn with
  | _ m ih =>
  intro st hm hI hz
  obtain ⟨out, todo⟩ := st
  cases todo with
  | nil =>
    obtain ⟨r, hs, hi, hr⟩ := cont out hI hz
    have u := up1 (j := k0) (by omega)
    replace u := Aside0.mk u
    refine ⟨r, Ev.step (fun k => spec_Cells.l2.eq_2 _ _ _ _ _ _ _ _ k) (evNeg (by simp) ?_), Ev.step (fun k => impl_Cells.l1.eq_2 _ _ _ _ _ _ _ _ _ k) (evNeg (by simp) ?_), hr⟩
    · rw [u.out]; exact hs
    · rw [u.out]; exact hi
  | cons c rest =>
    obtain ⟨c0, c1⟩ := hI.inn c List.mem_cons_self
    obtain ⟨c, rfl⟩ := Int.eq_ofNat_of_zero_le c0
    have hc : c < R * C := by omega
    have hI' : Inv (R * C) (out, rest) := ⟨hI.len, hI.pos, fun s hs => hI.inn s (List.mem_cons_of_mem _ hs), by have := hI.room; simp at this ⊢; omega⟩
    have hnum : (0 : Int) < ((x7 + 1 : Nat) : Int) := by omega
    obtain ⟨q1, q2, q3⟩ := fold_inv cells lv hnum (S R C c) (out, rest) (S_in hR1 hR hC1 hC hn hc) hI'
    simp only [List.length_cons] at hm
    dsimp only at q2 q3 hz
    obtain ⟨r, hs, hi, hr⟩ := ih _ (by omega) _ rfl q1 (by omega)
    have hlen : (S R C c).length ≤ 4 := by
      unfold S
      simp only [List.length_append]
      split <;> split <;> split <;> split <;> simp
    have e1 : Aside0 (wrap64 (Int.tdiv (c : Int) (C : Int)) = ((c / C : Nat) : Int)) := ⟨by
      have e : Int.tdiv (c : Int) (C : Int) = ((c / C : Nat) : Int) := rfl
      rw [e]
      have := (place hC1 hc).1
      generalize c / C = q at this
      exact w64 (by omega) (by omega)⟩
    have e2 : Int.tmod (c : Int) (C : Int) = ((c % C : Nat) : Int) := rfl
    refine ⟨r, Ev.step (fun k => spec_Cells.l2.eq_2 _ _ _ _ _ _ _ _ k) (evPos (by simp) (evPos (by simp) (evPos (by simp; omega) ?_))), Ev.step (fun k => impl_Cells.l1.eq_2 _ _ _ _ _ _ _ _ _ k) (evPos (by simp) (evPos (by simp) (evPos (by simp; omega) (evNeg (by omega) ?_)))), hr⟩
    · have r0 : rd ((c : Int) :: rest) 0 = (c : Int) := rfl
      rw [r0]
      refine Ev.bind (sides_ok hR1 hR hC1 hC hn hc) ?_
      exact side_loop hR1 hR hC1 hC hn lv _ (k0 : Int) (S R C c) hlen (S_in hR1 hR hC1 hC hn hc) hnum r (S R C c).length 0 (out, rest) (by omega) hI' (by simpa using hs)
    · have r0 : rd ((c : Int) :: rest) 0 = (c : Int) := rfl
      simp only [Option.bind_some]
      rw [r0, e1.out, e2]
      exact four_dirs hR1 hR hC1 hC hn lv _ hnum n (k0 : Int) hc (out, rest) hI' r hi

theorem outer : ∀ t j (x7 : Nat) (out : List Int), j + t = R * C → Inv (R * C) (out, []) → x7 + zs out ≤ R * C → ∃ r : List Int, Ev (fun k => spec_Cells.l1 k lv out (x7 : Int) (j : Int) (R : Int) (C : Int) cells) r ∧ Ev (fun k => impl_Cells.l0 k lv out (x7 : Int) ((R * C : Nat) : Int) (j : Int) (R : Int) (C : Int) cells) r ∧ r.length ≤ 1048576 := by
  have hb := nle hR1 hR hC1 hC hn
  intro t
  induction t with
  | zero =>
    intro j x7 out hj hI hx
    have hl := hI.len
    dsimp only at hl
    exact ⟨out, Ev.step (fun k => spec_Cells.l1.eq_2 _ _ _ _ _ _ _ k) (evNeg (by omega) (Ev.now _)), Ev.step (fun k => impl_Cells.l0.eq_2 _ _ _ _ _ _ _ _ k) (evNeg (by omega) (Ev.now _)), by omega⟩
  | succ t ih =>
    intro j x7 out hj hI hx
    have hl := hI.len
    have hp := hI.pos j
    dsimp only at hl hp
    have u := up1 (j := j) (by omega)
    replace u := Aside0.mk u
    have u7 := up1 (j := x7) (by omega)
    replace u7 := Aside0.mk u7
    obtain ⟨p1, p2, p3, p4⟩ := place (R := R) (c := j) hC1 (by omega)
    have e1 : Aside0 (wrap64 (Int.tdiv (j : Int) (C : Int)) = ((j / C : Nat) : Int)) := ⟨by
      have e : Int.tdiv (j : Int) (C : Int) = ((j / C : Nat) : Int) := rfl
      rw [e]
      generalize j / C = q at p1
      exact w64 (by omega) (by omega)⟩
    have e2 : Int.tmod (j : Int) (C : Int) = ((j % C : Nat) : Int) := rfl
    have H := high_in hR1 hR hC1 hC hn lv (j / C) (j % C) p1 p2
    rw [← p3] at H
    obtain ⟨r0, s0, i0, hr0⟩ := ih (j + 1) x7 out (by omega) hI hx
    have skipS : Ev (fun k => spec_Cells.j2 k lv out (x7 : Int) (j : Int) true (R : Int) (C : Int) cells) r0 := Ev.step (fun k => spec_Cells.j2.eq_2 _ _ _ _ _ _ _ _ k) (evPos rfl (by rw [u.out]; exact s0))
    have skipI : Ev (fun k => impl_Cells.j1 k lv out (x7 : Int) (j : Int) ((R * C : Nat) : Int) (j : Int) true (R : Int) (C : Int) cells) r0 := Ev.step (fun k => impl_Cells.j1.eq_2 _ _ _ _ _ _ _ _ _ _ k) (evPos rfl (by rw [u.out]; exact i0))
    by_cases c1 : rd out (j : Int) = 0
    rotate_left
    · exact ⟨r0, Ev.step (fun k => spec_Cells.l1.eq_2 _ _ _ _ _ _ _ k) (evPos (by omega) (evPos (by omega) (evNeg c1 skipS))), Ev.step (fun k => impl_Cells.l0.eq_2 _ _ _ _ _ _ _ _ k) (evPos (by omega) (evPos (by omega) (evPos (by omega) (evPos (by omega) skipI)))), hr0⟩
    by_cases c2 : rd cells (j : Int) ≥ lv
    rotate_left
    · refine ⟨r0, Ev.step (fun k => spec_Cells.l1.eq_2 _ _ _ _ _ _ _ k) (evPos (by omega) (evPos (by omega) (evPos c1 (evPos (by omega) ?_)))), Ev.step (fun k => impl_Cells.l0.eq_2 _ _ _ _ _ _ _ _ k) (evPos (by omega) (evPos (by omega) (evPos (by omega) (evNeg (by omega) (evNeg (by omega) ?_))))), hr0⟩
      · rw [decide_eq_true (by omega)]; exact skipS
      · rw [e1.out, e2, H, decide_eq_false c2]; exact skipI
    have z := zs_set ((x7 + 1 : Nat) : Int) (by omega) out j (by omega) (by rw [← rd_nat]; exact c1)
    have hst : Inv (R * C) (out.set j ((x7 + 1 : Nat) : Int), [(j : Int)]) := ⟨by simpa using hl, fun i => by
      dsimp only
      rw [rd_set _ _ _ _ (by omega)]
      split
      · omega
      · exact hI.pos i, fun s hs => by rw [List.mem_singleton.1 hs]; omega, by
      have h_ := hI.room
      change 0 + zs out ≤ R * C at h_
      show 1 + zs (out.set j ((x7 + 1 : Nat) : Int)) ≤ R * C
      omega⟩
    obtain ⟨r, hs, hi, hr⟩ := bfs hR1 hR hC1 hC hn lv x7 (by omega) j (by omega) ((R * C : Nat) : Int) (zs (out.set j ((x7 + 1 : Nat) : Int))) (fun out' hI' hz' => ih (j + 1) (x7 + 1) out' (by omega) hI' (by omega)) _ (out.set j ((x7 + 1 : Nat) : Int), [(j : Int)]) rfl hst (Nat.le_refl _)
    refine ⟨r, Ev.step (fun k => spec_Cells.l1.eq_2 _ _ _ _ _ _ _ k) (evPos (by omega) (evPos (by omega) (evPos c1 (evPos (by omega) ?_)))), Ev.step (fun k => impl_Cells.l0.eq_2 _ _ _ _ _ _ _ _ k) (evPos (by omega) (evPos (by omega) (evPos (by omega) (evNeg (by omega) (evNeg (by omega) ?_))))), hr⟩
    · rw [decide_eq_false (by omega)]
      refine Ev.step (fun k => spec_Cells.j2.eq_2 _ _ _ _ _ _ _ _ k) (evNeg (by decide) (evPos (by omega) (evPos (by omega) ?_)))
      rw [u7.out, Int.toNat_natCast]
      exact hs
    · rw [e1.out, e2, H, decide_eq_true c2]
      simp only [Option.bind_some]
      refine Ev.step (fun k => impl_Cells.j1.eq_2 _ _ _ _ _ _ _ _ _ _ k) (evNeg (by decide) (evPos (by omega) (evPos (by omega) ?_)))
      rw [u7.out, Int.toNat_natCast]
      exact hi
end

theorem cells_both (R C : Int) (l : List Int) (lv : Int) (h : l.length ≤ 1048576) : ∃ r : List Int, Ev (fun k => spec_Cells.f k R C l lv) r ∧ Ev (fun k => impl_Cells.f k R C l lv) r ∧ r.length ≤ 1048576 := by
  obtain ⟨b, bs, bi, hb⟩ := box_both R C l h
  simp only [spec_Cells.f, impl_Cells.f, Option.bind_some]
  cases b with
  | false => exact ⟨[], Ev.bind bs (evNeg (by decide) (Ev.now _)), Ev.bind bi (evNeg (by decide) (Ev.now _)), Nat.zero_le _⟩
  | true =>
    obtain ⟨r, c, rfl, rfl, r1, r2, c1, c2, hl⟩ := hb rfl
    have hrc := nle r1 r2 c1 c2 hl
    have hz : ∀ m, zs (List.replicate m (0 : Int)) = m := by
      intro m
      induction m with
      | zero => rfl
      | succ m ih => rw [List.replicate_succ]; show 1 + zs (List.replicate m 0) = m + 1; omega
    have hI : Inv (r * c) (List.replicate (r * c) (0 : Int), []) := ⟨by simp, fun i => by
      dsimp only
      rw [rd_nat, List.getD_eq_getElem?_getD, List.getElem?_replicate]
      split <;> simp, fun s hs => by simp at hs, by rw [hz]; simp⟩
    obtain ⟨x, hs, hi, hr⟩ := outer r1 r2 c1 c2 hl lv (r * c) 0 0 (List.replicate (r * c) (0 : Int)) (by omega) hI (by rw [hz]; omega)
    have fill : ∀ t j, j + t = r * c → Ev (fun k => spec_Cells.l0 k lv (List.replicate j (0 : Int)) (j : Int) (r : Int) (c : Int) l) x := by
      have e : wrap64 ((r : Int) * (c : Int)) = ((r * c : Nat) : Int) := by
        rw [← Int.natCast_mul]
        exact w64 (by omega) (by omega)
      replace e := Aside0.mk e
      intro t
      induction t with
      | zero =>
        intro j hj
        obtain rfl : j = r * c := by omega
        refine Ev.step (fun k => spec_Cells.l0.eq_2 _ _ _ _ _ _ k) ?_
        rw [e.out]
        exact evNeg (by omega) hs
      | succ t ih =>
        intro j hj
        have u := up1 (j := j) (by omega)
        replace u := Aside0.mk u
        refine Ev.step (fun k => spec_Cells.l0.eq_2 _ _ _ _ _ _ k) ?_
        rw [e.out, u.out]
        refine evPos (by omega) (evPos (by simp; omega) ?_)
        rw [show List.replicate j (0 : Int) ++ [0] = List.replicate (j + 1) 0 by rw [List.replicate_succ']]
        exact ih (j + 1) (by omega)
    refine ⟨x, Ev.bind bs (evPos rfl (fill (r * c) 0 (by omega))), Ev.bind bi (evPos rfl (evPos (by omega) (evPos (by rw [Int.toNat_natCast]; omega) ?_))), hr⟩
    rw [Int.toNat_natCast, hl]
    simp only [List.length_replicate]
    exact hi

theorem FnExactCells : laws_FnExactCells.Pure := by
  intro R C l lv hl0 _
  refine Ev.rounds ?_
  have sz : laws_szBox.f R C l 1048576 = some (if l.length ≤ 1048576 then 1048576 - (l.length : Int) else -1) := by
    unfold laws_szBox.f laws_szInt64S.f
    have e : wrap64 (1048576 - (l.length : Int)) = 1048576 - (l.length : Int) := w64 (by omega) (by omega)
    rw [e]
    clear e
    by_cases c : l.length ≤ 1048576
    · rw [if_neg (by omega), Option.bind_some, if_neg (by omega), if_pos c]
    · rw [if_pos (by omega), Option.bind_some, if_pos (by omega), if_neg c]
  have toB : ∀ l : List Int, l.length ≤ 1048576 → Ev (fun k => laws_toBox.f k R C l) (R, C, l) := fun l h => by
    simp only [laws_toBox.f]
    exact Ev.bind (toInt64S_ev l h) (Ev.now _)
  have eqB : ∀ l : List Int, l.length ≤ 1048576 → Ev (fun k => laws_eqBox.f k R C l R C l) true := fun l h => by
    simp only [laws_eqBox.f]
    exact evPos trivial (evPos trivial (Ev.bind (eqInt64S_ev l (by omega)) (evPos rfl (Ev.now _))))
  simp only [laws_FnExactCells.f]
  rw [sz]
  by_cases hl : l.length ≤ 1048576
  rotate_left
  · rw [if_neg hl]
    simp only [Option.bind_some]
    exact evPos (by decide) (Ev.now _)
  rw [if_pos hl]
  simp only [Option.bind_some]
  refine evNeg (by omega) ?_
  obtain ⟨r, hs, hi, hr⟩ := cells_both R C l lv hl
  have mkB : ∃ q : Int × List Int, Ev (fun k => laws_markBox.f k R C l 1) q ∧ ¬ q.1 < 0 := by
    have hm := markInt64S_ev l 1 (by omega) (by omega)
    refine ⟨(((1 + l.length : Nat) : Int), marks ((1 : Nat) : Int) l.length), ?_, ?_⟩
    · simp only [laws_markBox.f]
      exact Ev.bind hm (Ev.now _)
    · show ¬ ((1 + l.length : Nat) : Int) < 0
      omega
  obtain ⟨q, hq, hq0⟩ := mkB
  refine Ev.bind (toB l hl) (Ev.bind hs (Ev.bind (toB l hl) (Ev.bind hi (Ev.bind (eqInt64S_ev r (by omega)) (evPos rfl (Ev.bind (toB l hl) (Ev.bind (eqB l hl) (evPos rfl (Ev.bind hq (evNeg hq0 (Ev.bind (eqInt64S_ev r (by omega)) ?_)))))))))))
  refine Ev.step (fun k => laws_FnExactCells.j0.eq_2 _ _ _ _ _ _ _ k) (evNeg (by decide) ?_)
  refine Ev.bind (markInt64S_ev r 1 (by omega) (by omega)) (Ev.bind (heldInt64S_ev _ 1 (by omega) (by omega)) (evNeg (by omega) (evPos rfl ?_)))
  exact Ev.bind (toB l hl) (Ev.bind hi (Ev.bind (eqInt64S_ev r (by omega)) (evPos rfl (Ev.bind (heldInt64S_ev _ 1 (by omega) (by omega)) (evNeg (by omega) (evPos rfl (Ev.now _)))))))
end Go.Proofs.Ytcdghhihfjojaab.Pure
