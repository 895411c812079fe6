/- The plain statement of the law FnRemapped: drawn amounts that come to edges which cover theirs are as much together as they were, none below 0; to their own edges they come as they are; no condition. -/
import Derived.Test.YtmndffnjejgfoabDraw
import Derived.Test.YtmndffnjejgfoabInS
import Derived.Test.YtmndffnjejgfoabQx12
import Derived.Test.YtmndffnjejgfoabQx14
import Derived.Test.YtmndffnjejgfoabQx16
import Derived.Test.YtmndffnjejgfoabQx17
import Derived.Test.YtmndffnjejgfoabQx18
import Derived.Test.YtmndffnjejgfoabQx19
import Derived.Test.YtmndffnjejgfoabQx2
import Derived.Test.YtmndffnjejgfoabQx3
import Derived.Test.YtmndffnjejgfoabQx4
import Derived.Test.YtmndffnjejgfoabQx6
import Derived.Test.YtmndffnjejgfoabQx7
import Derived.Test.YtmndffnjejgfoabQx8
import Derived.Test.YtmndffnjejgfoabQx9
set_option linter.unusedVariables false
set_option linter.unusedSimpArgs false
namespace Go.Proofs.Ytmndffnjejgfoab.Pure
open Go.RowKit Go.Proofs.Ytmndffnjejgfoab.Q Go.Proofs.Ytmndffnjejgfoab.Gen Go.Proofs.Ytmndffnjejgfoab.Draw Go.Proofs.YtmndffnjejgfoabW.PrintWords Go.Proofs.YtmndffnjejgfoabW.PrintMore

/-! edges -/
structure Edg (e : List Int) : Prop where
  two : 2 ≤ e.length
  most : e.length ≤ 257
  bd : ∀ i, i < e.length → -1000000 ≤ e.getD i 0 ∧ e.getD i 0 ≤ 1000000
  up : ∀ i, i + 1 < e.length → e.getD i 0 < e.getD (i + 1) 0
theorem Edg.lt {e : List Int} (h : Edg e) : ∀ d i, i + d + 1 < e.length → e.getD i 0 < e.getD (i + d + 1) 0 := by
  intro d
  induction d with
  | zero => intro i hi; exact h.up i hi
  | succ d ih =>
    intro i hi
    have a := ih i (by omega)
    have b := h.up (i + d + 1) (by omega)
    have e1 : i + (d + 1) + 1 = i + d + 1 + 1 := by omega
    rw [e1]
    omega
theorem Edg.mono {e : List Int} (h : Edg e) {i j : Nat} (hij : i < j) (hj : j < e.length) : e.getD i 0 < e.getD j 0 := by
  have := h.lt (j - i - 1) i (by omega)
  rw [show i + (j - i - 1) + 1 = j by omega] at this
  exact this
theorem down1 {j : Nat} (h0 : 0 < j) (h : j < 4611686018427387904) : wrap64 ((j : Int) - 1) = ((j - 1 : Nat) : Int) := by unfold wrap64; omega
theorem edges_loop (e : List Int) (hn : e.length ≤ 257) : ∀ t j, j + t = e.length → ∃ b : Bool, Ev (fun k => spec_l11EdgesOk.l0 k e (j : Int)) b ∧ Ev (fun k => impl_edgesOk.l0 k e e (e.length : Int) (j : Int)) b ∧ (b = true → ∀ i, j ≤ i → i < e.length → (-1000000 ≤ e.getD i 0 ∧ e.getD i 0 ≤ 1000000) ∧ (0 < i → e.getD (i - 1) 0 < e.getD i 0)) := by
  intro t
  induction t with
  | zero =>
    intro j hj
    refine ⟨true, Ev.step (fun k => spec_l11EdgesOk.l0.eq_2 _ _ k) (evNeg (by omega) (Ev.now _)), Ev.step (fun k => impl_edgesOk.l0.eq_2 _ _ _ _ k) (evNeg (by omega) (Ev.now _)), fun _ i h1 h2 => by omega⟩
  | succ t ih =>
    intro j hj
    obtain ⟨b, hs, hi, hb⟩ := ih (j + 1) (by omega)
    by_cases c : inS (e.getD j 0) (-1000000) 1000000 = true
    rotate_left
    · rw [Bool.not_eq_true] at c
      refine ⟨false, Ev.step (fun k => spec_l11EdgesOk.l0.eq_2 _ _ k) (evPos (by omega) (evPos (by omega) ?_)), Ev.step (fun k => impl_edgesOk.l0.eq_2 _ _ _ _ k) (evPos (by omega) (evPos (by omega) (evPos (by omega) ?_))), fun h => by cases h⟩
      · simp only [rd_nat, l2In_s, c, Option.bind_some]
        exact evNeg (by decide) (Ev.now _)
      · simp only [rd_nat, in_s, c, Option.bind_some]
        exact evNeg (by decide) (Ev.now _)
    · have c' := (inS_iff _ _ _).1 c
      have good : (0 < j → e.getD (j - 1) 0 < e.getD j 0) → b = true → ∀ i, j ≤ i → i < e.length → (-1000000 ≤ e.getD i 0 ∧ e.getD i 0 ≤ 1000000) ∧ (0 < i → e.getD (i - 1) 0 < e.getD i 0) := fun h0 h i h1 h2 => by
        by_cases hij : i = j
        · rw [hij]; exact ⟨c', h0⟩
        · exact hb h i (by omega) h2
      by_cases hj0 : j = 0
      · refine ⟨b, Ev.step (fun k => spec_l11EdgesOk.l0.eq_2 _ _ k) (evPos (by omega) (evPos (by omega) ?_)), Ev.step (fun k => impl_edgesOk.l0.eq_2 _ _ _ _ k) (evPos (by omega) (evPos (by omega) (evPos (by omega) ?_))), good (fun h => by omega)⟩
        · simp only [rd_nat, l2In_s, c, Option.bind_some]
          refine evPos trivial (evNeg (by omega) ?_)
          rw [up1 (by omega)]
          exact hs
        · simp only [rd_nat, in_s, c, Option.bind_some]
          refine evPos trivial (evNeg (by omega) ?_)
          rw [up1 (by omega)]
          exact hi
      · by_cases hr : e.getD j 0 ≤ e.getD (j - 1) 0
        · refine ⟨false, Ev.step (fun k => spec_l11EdgesOk.l0.eq_2 _ _ k) (evPos (by omega) (evPos (by omega) ?_)), Ev.step (fun k => impl_edgesOk.l0.eq_2 _ _ _ _ k) (evPos (by omega) (evPos (by omega) (evPos (by omega) ?_))), fun h => by cases h⟩
          · simp only [l2In_s, rd_nat, c, Option.bind_some]
            refine evPos trivial (evPos (by omega) ?_)
            rw [down1 (by omega) (by omega), rd_nat]
            exact evPos (by omega) (evPos (by omega) (evPos hr (Ev.now _)))
          · simp only [in_s, rd_nat, c, Option.bind_some]
            refine evPos trivial (evPos (by omega) ?_)
            rw [down1 (by omega) (by omega), rd_nat]
            exact evPos (by omega) (evPos (by omega) (evPos hr (Ev.now _)))
        · refine ⟨b, Ev.step (fun k => spec_l11EdgesOk.l0.eq_2 _ _ k) (evPos (by omega) (evPos (by omega) ?_)), Ev.step (fun k => impl_edgesOk.l0.eq_2 _ _ _ _ k) (evPos (by omega) (evPos (by omega) (evPos (by omega) ?_))), good (fun _ => by omega)⟩
          · simp only [l2In_s, rd_nat, c, Option.bind_some]
            refine evPos trivial (evPos (by omega) ?_)
            rw [down1 (by omega) (by omega), rd_nat, up1 (by omega)]
            exact evPos (by omega) (evPos (by omega) (evNeg hr hs))
          · simp only [in_s, rd_nat, c, Option.bind_some]
            refine evPos trivial (evPos (by omega) ?_)
            rw [down1 (by omega) (by omega), rd_nat, up1 (by omega)]
            exact evPos (by omega) (evPos (by omega) (evNeg hr hi))
theorem edges_both (e : List Int) (h : e.length ≤ 1048576) : ∃ b : Bool, Ev (fun k => spec_l11EdgesOk.f k e) b ∧ Ev (fun k => impl_edgesOk.f k e) b ∧ (b = true → Edg e) := by
  simp only [spec_l11EdgesOk.f, impl_edgesOk.f, in_s, Option.bind_some]
  have no : Ev (fun k => spec_l11EdgesOk.j0 k e true) false := Ev.step (fun k => spec_l11EdgesOk.j0.eq_2 _ _ k) (evPos rfl (Ev.now _))
  by_cases h2 : e.length < 2
  · exact ⟨false, evPos (by omega) no, evNeg (fun hh => by rw [inS_iff] at hh; omega) (Ev.now _), fun hh => by cases hh⟩
  · by_cases h3 : e.length ≤ 257
    · obtain ⟨b, hs, hi, hb⟩ := edges_loop e h3 e.length 0 (by omega)
      refine ⟨b, evNeg (by omega) ?_, evPos ((inS_iff _ _ _).2 (by omega)) hi, fun hh => ⟨by omega, h3, fun i hi2 => (hb hh i (Nat.zero_le _) hi2).1, fun i hi2 => (hb hh (i + 1) (Nat.zero_le _) hi2).2 (by omega)⟩⟩
      rw [decide_eq_false (by omega)]
      exact Ev.step (fun k => spec_l11EdgesOk.j0.eq_2 _ _ k) (evNeg (by decide) hs)
    · refine ⟨false, evNeg (by omega) ?_, evNeg (fun hh => by rw [inS_iff] at hh; omega) (Ev.now _), fun hh => by cases hh⟩
      rw [decide_eq_true (by omega)]
      exact no

/-! what lies below a place -/
def gI (e a : List Int) (x : Int) (i : Nat) : Int := if e.getD (i + 1) 0 ≤ x then a.getD i 0 else if e.getD i 0 < x then (a.getD i 0 * (x - e.getD i 0)) / (e.getD (i + 1) 0 - e.getD i 0) else 0
def Fs (e a : List Int) (x : Int) : Nat → Int
  | 0 => 0
  | n + 1 => Fs e a x n + gI e a x n
def Sa (a : List Int) : Nat → Int
  | 0 => 0
  | n + 1 => Sa a n + a.getD n 0
structure Amt (e a : List Int) : Prop where
  edg : Edg e
  len : a.length + 1 = e.length
  bd : ∀ i, i < a.length → 0 ≤ a.getD i 0 ∧ a.getD i 0 ≤ 1000000000000
theorem quo_le {a n d : Int} (ha : 0 ≤ a) (hn : n ≤ d) (hd : 0 < d) : a * n / d ≤ a := Int.ediv_le_of_le_mul hd (Int.mul_le_mul_of_nonneg_left hn ha)
theorem quo_nonneg {a n d : Int} (ha : 0 ≤ a) (hn : 0 ≤ n) (hd : 0 < d) : 0 ≤ a * n / d := Int.ediv_nonneg (Int.mul_nonneg ha hn) (by omega)
theorem Amt.g0 {e a : List Int} (h : Amt e a) (x : Int) {i : Nat} (hi : i < a.length) : 0 ≤ gI e a x i ∧ gI e a x i ≤ a.getD i 0 := by
  have hl := h.len
  have b := h.bd i hi
  have u := h.edg.up i (by omega)
  unfold gI
  by_cases c1 : e.getD (i + 1) 0 ≤ x
  · rw [if_pos c1]; omega
  · rw [if_neg c1]
    by_cases c2 : e.getD i 0 < x
    · rw [if_pos c2]
      exact ⟨quo_nonneg b.1 (by omega) (by omega), quo_le b.1 (by omega) (by omega)⟩
    · rw [if_neg c2]; omega
theorem Amt.gm {e a : List Int} (h : Amt e a) {x y : Int} (hxy : x ≤ y) {i : Nat} (hi : i < a.length) : gI e a x i ≤ gI e a y i := by
  have hl := h.len
  have b := h.bd i hi
  have u := h.edg.up i (by omega)
  have gx := h.g0 x hi
  have gy := h.g0 y hi
  by_cases c1 : e.getD (i + 1) 0 ≤ y
  · have : gI e a y i = a.getD i 0 := by unfold gI; rw [if_pos c1]
    omega
  · by_cases c2 : e.getD i 0 < x
    · have ex : gI e a x i = (a.getD i 0 * (x - e.getD i 0)) / (e.getD (i + 1) 0 - e.getD i 0) := by unfold gI; rw [if_neg (by omega), if_pos c2]
      have ey : gI e a y i = (a.getD i 0 * (y - e.getD i 0)) / (e.getD (i + 1) 0 - e.getD i 0) := by unfold gI; rw [if_neg c1, if_pos (by omega)]
      rw [ex, ey]
      exact Int.ediv_le_ediv (by omega) (Int.mul_le_mul_of_nonneg_left (by omega) b.1)
    · have ex : gI e a x i = 0 := by unfold gI; rw [if_neg (by omega), if_neg c2]
      omega
theorem Amt.F0 {e a : List Int} (h : Amt e a) (x : Int) : ∀ n, n ≤ a.length → 0 ≤ Fs e a x n ∧ Fs e a x n ≤ 1000000000000 * n := by
  intro n
  induction n with
  | zero => intro _; exact ⟨Int.le_refl _, by show (0 : Int) ≤ _; omega⟩
  | succ n ih =>
    intro hn
    have := ih (by omega)
    have g := h.g0 x (i := n) (by omega)
    have b := h.bd n (by omega)
    unfold Fs
    omega
theorem Amt.Fm {e a : List Int} (h : Amt e a) {x y : Int} (hxy : x ≤ y) : ∀ n, n ≤ a.length → Fs e a x n ≤ Fs e a y n := by
  intro n
  induction n with
  | zero => intro _; exact Int.le_refl _
  | succ n ih =>
    intro hn
    have := ih (by omega)
    have g := h.gm hxy (i := n) (by omega)
    unfold Fs
    omega
theorem Amt.S0 {e a : List Int} (h : Amt e a) : ∀ n, n ≤ a.length → 0 ≤ Sa a n ∧ Sa a n ≤ 1000000000000 * n := by
  intro n
  induction n with
  | zero => intro _; exact ⟨Int.le_refl _, by show (0 : Int) ≤ _; omega⟩
  | succ n ih =>
    intro hn
    have := ih (by omega)
    have b := h.bd n (by omega)
    unfold Sa
    omega
theorem Amt.Flow {e a : List Int} (h : Amt e a) {x : Int} (hx : x ≤ e.getD 0 0) : ∀ n, n ≤ a.length → Fs e a x n = 0 := by
  have hl := h.len
  intro n
  induction n with
  | zero => intro _; rfl
  | succ n ih =>
    intro hn
    have u := h.edg.up n (by omega)
    have v : e.getD 0 0 ≤ e.getD n 0 := by
      by_cases c : n = 0
      · rw [c]; exact Int.le_refl _
      · have := h.edg.mono (i := 0) (j := n) (by omega) (by omega); omega
    unfold Fs gI
    rw [ih (by omega), if_neg (by omega), if_neg (by omega)]
    rfl
theorem Amt.Fhigh {e a : List Int} (h : Amt e a) {x : Int} (hx : e.getD (e.length - 1) 0 ≤ x) : ∀ n, n ≤ a.length → Fs e a x n = Sa a n := by
  have hl := h.len
  intro n
  induction n with
  | zero => intro _; rfl
  | succ n ih =>
    intro hn
    have v : e.getD (n + 1) 0 ≤ e.getD (e.length - 1) 0 := by
      by_cases c : n + 1 = e.length - 1
      · rw [c]; exact Int.le_refl _
      · have := h.edg.mono (i := n + 1) (j := e.length - 1) (by omega) (by omega); omega
    unfold Fs Sa gI
    rw [ih (by omega), if_pos (by omega)]
theorem Amt.Fown {e a : List Int} (h : Amt e a) {j : Nat} (hj : j ≤ a.length) : ∀ n, n ≤ a.length → Fs e a (e.getD j 0) n = Sa a (min j n) := by
  have hl := h.len
  intro n
  induction n with
  | zero => intro _; rw [Nat.min_zero]; rfl
  | succ n ih =>
    intro hn
    unfold Fs
    rw [ih (by omega)]
    by_cases c : n + 1 ≤ j
    · have v : e.getD (n + 1) 0 ≤ e.getD j 0 := by
        by_cases c2 : n + 1 = j
        · rw [c2]; exact Int.le_refl _
        · have := h.edg.mono (i := n + 1) (j := j) (by omega) (by omega); omega
      rw [Nat.min_eq_right (show n ≤ j by omega), Nat.min_eq_right c]
      unfold gI
      rw [if_pos v]
      rfl
    · have u := h.edg.up n (by omega)
      have v : e.getD j 0 ≤ e.getD n 0 := by
        by_cases c2 : j = n
        · rw [c2]; exact Int.le_refl _
        · have := h.edg.mono (i := j) (j := n) (by omega) (by omega); omega
      rw [Nat.min_eq_left (show j ≤ n by omega), Nat.min_eq_left (show j ≤ n + 1 by omega)]
      unfold gI
      rw [if_neg (by omega), if_neg (by omega), Int.add_zero]
/-- One term, as both reckon it. -/
theorem Amt.term {e a : List Int} (h : Amt e a) {x : Int} (hx : -1000000 ≤ x ∧ x ≤ 1000000) {j : Nat} (hj : j < a.length) (c1 : ¬ e.getD (j + 1) 0 ≤ x) (c2 : e.getD j 0 < x) : wrap64 (Int.tdiv (wrap64 (a.getD j 0 * (wrap64 (x - e.getD j 0)))) (wrap64 (e.getD (j + 1) 0 - e.getD j 0))) = gI e a x j ∧ ¬ wrap64 (e.getD (j + 1) 0 - e.getD j 0) = 0 := by
  have hl := h.len
  have b := h.bd j hj
  have e0 := h.edg.bd j (by omega)
  have e1 := h.edg.bd (j + 1) (by omega)
  have g := h.g0 x hj
  have eg : gI e a x j = (a.getD j 0 * (x - e.getD j 0)) / (e.getD (j + 1) 0 - e.getD j 0) := by unfold gI; rw [if_neg c1, if_pos c2]
  have m0 : 0 ≤ a.getD j 0 * (x - e.getD j 0) := Int.mul_nonneg b.1 (by omega)
  have m1 : a.getD j 0 * (x - e.getD j 0) ≤ 1000000000000 * 2000000 := Int.mul_le_mul b.2 (by omega) (by omega) (by omega)
  rw [w64 (x := x - e.getD j 0) (by omega) (by omega), w64 (x := e.getD (j + 1) 0 - e.getD j 0) (by omega) (by omega), w64 (x := a.getD j 0 * (x - e.getD j 0)) (by omega) (by omega), Int.tdiv_eq_ediv_of_nonneg m0, ← eg]
  exact ⟨w64 (by omega) (by omega), by omega⟩
theorem below_spec {e a : List Int} (h : Amt e a) {x : Int} (hx : -1000000 ≤ x ∧ x ≤ 1000000) : ∀ t j, j + t = a.length → Ev (fun k => spec_l11Below.l0 k e a x (Fs e a x j) (j : Int)) (Fs e a x a.length) := by
  have hl := h.len
  have hm := h.edg.most
  intro t
  induction t with
  | zero =>
    intro j hj
    rw [show j = a.length by omega]
    exact Ev.step (fun k => spec_l11Below.l0.eq_2 _ _ _ _ _ k) (evNeg (by omega) (Ev.now _))
  | succ t ih =>
    intro j hj
    have IH := ih (j + 1) (by omega)
    have f0 := h.F0 x j (by omega)
    have g := h.g0 x (i := j) (by omega)
    have b := h.bd j (by omega)
    have ef : wrap64 (Fs e a x j + gI e a x j) = Fs e a x (j + 1) := w64 (by omega) (by omega)
    refine Ev.step (fun k => spec_l11Below.l0.eq_2 _ _ _ _ _ k) (evPos (by omega) ?_)
    rw [up1 (by omega), rd_nat, rd_nat, rd_nat]
    refine evPos (by omega) (evPos (by omega) ?_)
    by_cases c : e.getD (j + 1) 0 ≤ x
    · have eg : gI e a x j = a.getD j 0 := by unfold gI; rw [if_pos c]
      rw [eg] at ef
      refine evPos c (evPos (by omega) ?_)
      rw [ef]
      exact IH
    · refine evNeg c (evPos (by omega) (evPos (by omega) ?_))
      by_cases c2 : e.getD j 0 < x
      · obtain ⟨t1, t2⟩ := h.term hx (by omega) c c2
        refine evPos c2 (evNeg t2 ?_)
        rw [t1, ef]
        exact IH
      · have eg : gI e a x j = 0 := by unfold gI; rw [if_neg c, if_neg c2]
        refine evNeg c2 ?_
        have : Fs e a x j = Fs e a x (j + 1) := by show _ = Fs e a x j + gI e a x j; rw [eg, Int.add_zero]
        rw [this]
        exact IH
theorem below_impl {e a : List Int} (h : Amt e a) {x : Int} (hx : -1000000 ≤ x ∧ x ≤ 1000000) : ∀ t j, j + t = a.length → Ev (fun k => impl_Remap_1.l0 k x [e] (Fs e a x j) a (a.length : Int) (j : Int)) (Fs e a x a.length) := by
  have hl := h.len
  have hm := h.edg.most
  have r0 : rd_L1 [e] 0 = e := rfl
  intro t
  induction t with
  | zero =>
    intro j hj
    rw [show j = a.length by omega]
    exact Ev.step (fun k => impl_Remap_1.l0.eq_2 _ _ _ _ _ _ k) (evNeg (by omega) (Ev.now _))
  | succ t ih =>
    intro j hj
    have IH := ih (j + 1) (by omega)
    have f0 := h.F0 x j (by omega)
    have g := h.g0 x (i := j) (by omega)
    have b := h.bd j (by omega)
    have ef : wrap64 (Fs e a x j + gI e a x j) = Fs e a x (j + 1) := w64 (by omega) (by omega)
    refine Ev.step (fun k => impl_Remap_1.l0.eq_2 _ _ _ _ _ _ k) (evPos (by omega) (evPos (by omega) (evPos (by omega) (evPos (by simp) ?_))))
    rw [r0, up1 (by omega), rd_nat, rd_nat, rd_nat]
    refine evPos (by omega) (evPos (by omega) (evPos (by omega) ?_))
    by_cases c : e.getD (j + 1) 0 ≤ x
    · have eg : gI e a x j = a.getD j 0 := by unfold gI; rw [if_pos c]
      rw [eg] at ef
      refine evPos c ?_
      rw [ef]
      exact IH
    · refine evNeg c ?_
      by_cases c2 : e.getD j 0 < x
      · obtain ⟨t1, t2⟩ := h.term hx (by omega) c c2
        refine evPos c2 (evNeg t2 ?_)
        rw [t1, ef]
        exact IH
      · have eg : gI e a x j = 0 := by unfold gI; rw [if_neg c, if_neg c2]
        refine evNeg c2 ?_
        have : Fs e a x j = Fs e a x (j + 1) := by show _ = Fs e a x j + gI e a x j; rw [eg, Int.add_zero]
        rw [this]
        exact IH
theorem belowS {e a : List Int} (h : Amt e a) {x : Int} (hx : -1000000 ≤ x ∧ x ≤ 1000000) : Ev (fun k => spec_l11Below.f k e a x) (Fs e a x a.length) := below_spec h hx a.length 0 (by omega)
theorem belowI {e a : List Int} (h : Amt e a) {x : Int} (hx : -1000000 ≤ x ∧ x ≤ 1000000) : Ev (fun k => impl_Remap_1.f k x [a] [e]) (Fs e a x a.length) := by
  simp only [impl_Remap_1.f]
  refine evPos (by simp) ?_
  exact below_impl h hx a.length 0 (by omega)

def ot (e a tt : List Int) (j : Nat) : Int := Fs e a (tt.getD (j + 1) 0) a.length - Fs e a (tt.getD j 0) a.length
def OUT (e a tt : List Int) : List Int := tab (tt.length - 1) (ot e a tt)
theorem Amt.ot0 {e a tt : List Int} (h : Amt e a) (ht : Edg tt) {j : Nat} (hj : j + 1 < tt.length) : 0 ≤ ot e a tt j ∧ ot e a tt j ≤ 257000000000000 := by
  have hl := h.len
  have hm := h.edg.most
  have u := ht.up j hj
  have m := h.Fm (x := tt.getD j 0) (y := tt.getD (j + 1) 0) (by omega) a.length (Nat.le_refl _)
  have f0 := h.F0 (tt.getD j 0) a.length (Nat.le_refl _)
  have f1 := h.F0 (tt.getD (j + 1) 0) a.length (Nat.le_refl _)
  unfold ot
  omega
theorem out_spec {e a tt : List Int} (h : Amt e a) (ht : Edg tt) : ∀ t j, j + 1 + t = tt.length → Ev (fun k => spec_Remap.l1 k e a tt (tab j (ot e a tt)) (j : Int)) (OUT e a tt, true) := by
  have hm := ht.most
  intro t
  induction t with
  | zero =>
    intro j hj
    refine Ev.step (fun k => spec_Remap.l1.eq_2 _ _ _ _ _ k) ?_
    rw [up1 (by omega)]
    refine evNeg (by omega) ?_
    unfold OUT
    rw [show tt.length - 1 = j by omega]
    exact Ev.now _
  | succ t ih =>
    intro j hj
    have IH := ih (j + 1) (by omega)
    have l1 := tab_length j (ot e a tt)
    have o := h.ot0 ht (j := j) (by omega)
    have us := belowS h (x := rd tt ((j + 1 : Nat) : Int)) (by rw [rd_nat]; exact ht.bd _ (by omega))
    have vs := belowS h (x := rd tt (j : Int)) (by rw [rd_nat]; exact ht.bd _ (by omega))
    have eo : wrap64 (Fs e a (rd tt ((j + 1 : Nat) : Int)) a.length - Fs e a (rd tt (j : Int)) a.length) = ot e a tt j := by rw [rd_nat, rd_nat]; exact w64 (x := ot e a tt j) (by omega) (by omega)
    refine Ev.step (fun k => spec_Remap.l1.eq_2 _ _ _ _ _ k) ?_
    rw [up1 (by omega)]
    refine evPos (by omega) (evPos (by omega) (Ev.bind us (evPos (by omega) (evPos (by omega) (Ev.bind vs (evPos (by omega) ?_))))))
    rw [eo, ← tab_succ]
    exact IH
theorem out_impl {e a tt : List Int} (h : Amt e a) (ht : Edg tt) : ∀ t j, j + 1 + t = tt.length → Ev (fun k => impl_Remap.l1 k tt (tab j (ot e a tt)) (j : Int) e a) (OUT e a tt, true) := by
  have hm := ht.most
  intro t
  induction t with
  | zero =>
    intro j hj
    refine Ev.step (fun k => impl_Remap.l1.eq_2 _ _ _ _ _ k) ?_
    rw [up1 (by omega)]
    refine evNeg (by omega) ?_
    unfold OUT
    rw [show tt.length - 1 = j by omega]
    exact Ev.now _
  | succ t ih =>
    intro j hj
    have IH := ih (j + 1) (by omega)
    have l1 := tab_length j (ot e a tt)
    have o := h.ot0 ht (j := j) (by omega)
    have us := belowI h (x := rd tt ((j + 1 : Nat) : Int)) (by rw [rd_nat]; exact ht.bd _ (by omega))
    have vs := belowI h (x := rd tt (j : Int)) (by rw [rd_nat]; exact ht.bd _ (by omega))
    have eo : wrap64 (Fs e a (rd tt ((j + 1 : Nat) : Int)) a.length - Fs e a (rd tt (j : Int)) a.length) = ot e a tt j := by rw [rd_nat, rd_nat]; exact w64 (x := ot e a tt j) (by omega) (by omega)
    refine Ev.step (fun k => impl_Remap.l1.eq_2 _ _ _ _ _ k) ?_
    rw [up1 (by omega)]
    refine evPos (by omega) (evPos (by omega) (Ev.bind us (evPos (by omega) (evPos (by omega) (Ev.bind vs (evPos (by omega) ?_))))))
    rw [eo, ← tab_succ]
    exact IH

theorem amounts_scan (a : List Int) (hn : a.length ≤ 256) : ∀ t j, j + t = a.length → (∀ i, j ≤ i → i < a.length → 0 ≤ a.getD i 0 ∧ a.getD i 0 ≤ 1000000000000) ∨ (∀ e tt : List Int, Ev (fun k => spec_Remap.l0 k e a tt [] (j : Int)) ([], false) ∧ Ev (fun k => impl_Remap.l0 k tt a (a.length : Int) (j : Int) e a) ([], false)) := by
  intro t
  induction t with
  | zero => intro j hj; exact .inl fun i h1 h2 => by omega
  | succ t ih =>
    intro j hj
    by_cases c : inS (a.getD j 0) 0 1000000000000 = true
    · have c' := (inS_iff _ _ _).1 c
      rcases ih (j + 1) (by omega) with h | h
      · refine .inl fun i h1 h2 => ?_
        by_cases hij : i = j
        · rw [hij]; exact c'
        · exact h i (by omega) h2
      · refine .inr fun e tt => ⟨Ev.step (fun k => spec_Remap.l0.eq_2 _ _ _ _ _ k) (evPos (by omega) (evPos (by omega) ?_)), Ev.step (fun k => impl_Remap.l0.eq_2 _ _ _ _ _ _ k) (evPos (by omega) (evPos (by omega) (evPos (by omega) ?_)))⟩
        · simp only [rd_nat, l2In_s, c, Option.bind_some]
          rw [up1 (by omega)]
          exact evPos trivial (h e tt).1
        · simp only [rd_nat, in_s, c, Option.bind_some]
          rw [up1 (by omega)]
          exact evPos trivial (h e tt).2
    · rw [Bool.not_eq_true] at c
      refine .inr fun e tt => ⟨Ev.step (fun k => spec_Remap.l0.eq_2 _ _ _ _ _ k) (evPos (by omega) (evPos (by omega) ?_)), Ev.step (fun k => impl_Remap.l0.eq_2 _ _ _ _ _ _ k) (evPos (by omega) (evPos (by omega) (evPos (by omega) ?_)))⟩
      · simp only [rd_nat, l2In_s, c, Option.bind_some]
        exact evNeg (by decide) (Ev.now _)
      · simp only [rd_nat, in_s, c, Option.bind_some]
        exact evNeg (by decide) (Ev.now _)
theorem amounts_pass {e a tt : List Int} (h : Amt e a) (ht : Edg tt) : ∀ t j, j + t = a.length → Ev (fun k => spec_Remap.l0 k e a tt [] (j : Int)) (OUT e a tt, true) ∧ Ev (fun k => impl_Remap.l0 k tt a (a.length : Int) (j : Int) e a) (OUT e a tt, true) := by
  have hl := h.len
  have hm := h.edg.most
  have h2 := ht.two
  intro t
  induction t with
  | zero =>
    intro j hj
    exact ⟨Ev.step (fun k => spec_Remap.l0.eq_2 _ _ _ _ _ k) (evNeg (by omega) (out_spec h ht (tt.length - 1) 0 (by omega))), Ev.step (fun k => impl_Remap.l0.eq_2 _ _ _ _ _ _ k) (evNeg (by omega) (out_impl h ht (tt.length - 1) 0 (by omega)))⟩
  | succ t ih =>
    intro j hj
    obtain ⟨hs, hi⟩ := ih (j + 1) (by omega)
    have c : inS (a.getD j 0) 0 1000000000000 = true := (inS_iff _ _ _).2 (h.bd j (by omega))
    refine ⟨Ev.step (fun k => spec_Remap.l0.eq_2 _ _ _ _ _ k) (evPos (by omega) (evPos (by omega) ?_)), Ev.step (fun k => impl_Remap.l0.eq_2 _ _ _ _ _ _ k) (evPos (by omega) (evPos (by omega) (evPos (by omega) ?_)))⟩
    · simp only [rd_nat, l2In_s, c, Option.bind_some]
      rw [up1 (by omega)]
      exact evPos trivial hs
    · simp only [rd_nat, in_s, c, Option.bind_some]
      rw [up1 (by omega)]
      exact evPos trivial hi
theorem remap_ok {e a tt : List Int} (h : Amt e a) (ht : Edg tt) (es : Ev (fun k => spec_l11EdgesOk.f k e) true) (ei : Ev (fun k => impl_edgesOk.f k e) true) (ts : Ev (fun k => spec_l11EdgesOk.f k tt) true) (ti : Ev (fun k => impl_edgesOk.f k tt) true) : Ev (fun k => spec_Remap.f k e a tt) (OUT e a tt, true) ∧ Ev (fun k => impl_Remap.f k e a tt) (OUT e a tt, true) := by
  have hl := h.len
  have hm := h.edg.most
  have h2 := h.edg.two
  have hw : wrap64 ((e.length : Int) - 1) = ((e.length - 1 : Nat) : Int) := down1 (by omega) (by omega)
  have hq : ((a.length : Int) != wrap64 ((e.length : Int) - 1)) = false := by rw [hw]; simp; omega
  obtain ⟨hs, hi⟩ := amounts_pass h ht a.length 0 (by omega)
  simp only [spec_Remap.f, impl_Remap.f, Option.bind_some]
  refine ⟨Ev.bind es (evPos rfl (Ev.bind ts (evPos rfl ?_))), Ev.bind ei (evPos rfl (Ev.bind ti (evPos rfl ?_)))⟩
  · rw [hq]
    exact Ev.step (fun k => spec_Remap.j0.eq_2 _ _ _ _ _ k) (evNeg (by decide) hs)
  · rw [hq]
    exact Ev.step (fun k => impl_Remap.j0.eq_2 _ _ _ _ k) (evNeg (by decide) hi)
theorem remap_cases (e a tt : List Int) (h0 : e.length ≤ 1048576) (h1 : a.length ≤ 1048576) (h2 : tt.length ≤ 1048576) : (Ev (fun k => spec_Remap.f k e a tt) ([], false) ∧ Ev (fun k => impl_Remap.f k e a tt) ([], false)) ∨ (Amt e a ∧ Edg tt ∧ Ev (fun k => spec_Remap.f k e a tt) (OUT e a tt, true) ∧ Ev (fun k => impl_Remap.f k e a tt) (OUT e a tt, true) ∧ Ev (fun k => impl_Remap.f k e a e) (OUT e a e, true)) := by
  have noS : Ev (fun k => spec_Remap.j0 k e a tt [] true) ([], false) := Ev.step (fun k => spec_Remap.j0.eq_2 _ _ _ _ _ k) (evPos rfl (Ev.now _))
  have noI : Ev (fun k => impl_Remap.j0 k tt true e a) ([], false) := Ev.step (fun k => impl_Remap.j0.eq_2 _ _ _ _ k) (evPos rfl (Ev.now _))
  obtain ⟨b, bs, bi, hb⟩ := edges_both e h0
  obtain ⟨c, cs, ci, hc⟩ := edges_both tt h2
  have S0 : ∀ r, Ev (fun k => (spec_l11EdgesOk.f k e).bind fun t115 => (if t115 = true then ((spec_l11EdgesOk.f k tt).bind fun t116 => (if t116 = true then (spec_Remap.j0 k e a tt [] ((a.length : Int) != (wrap64 ((e.length : Int) - 1)))) else (spec_Remap.j0 k e a tt [] true))) else (spec_Remap.j0 k e a tt [] true))) r → Ev (fun k => spec_Remap.f k e a tt) r := fun r h => by
    simp only [spec_Remap.f]
    exact Ev.bind (Ev.now _) h
  cases b with
  | false => exact .inl ⟨S0 _ (Ev.bind bs (evNeg (by decide) noS)), Ev.bind bi (evNeg (by decide) noI)⟩
  | true =>
    cases c with
    | false => exact .inl ⟨S0 _ (Ev.bind bs (evPos rfl (Ev.bind cs (evNeg (by decide) noS)))), Ev.bind bi (evPos rfl (Ev.bind ci (evNeg (by decide) noI)))⟩
    | true =>
      have he := hb rfl
      have ht := hc rfl
      have e2 := he.two
      have e3 := he.most
      have hw : wrap64 ((e.length : Int) - 1) = ((e.length - 1 : Nat) : Int) := down1 (by omega) (by omega)
      by_cases hl : a.length + 1 = e.length
      · have hq : ((a.length : Int) != wrap64 ((e.length : Int) - 1)) = false := by rw [hw]; simp; omega
        rcases amounts_scan a (by omega) a.length 0 (by omega) with h | h
        · have hA : Amt e a := ⟨he, hl, fun i hi => h i (Nat.zero_le _) hi⟩
          obtain ⟨r1, r2⟩ := remap_ok hA ht bs bi cs ci
          exact .inr ⟨hA, ht, r1, r2, (remap_ok hA he bs bi bs bi).2⟩
        · refine .inl ⟨S0 _ (Ev.bind bs (evPos rfl (Ev.bind cs (evPos rfl ?_)))), Ev.bind bi (evPos rfl (Ev.bind ci (evPos rfl ?_)))⟩
          · rw [hq]
            exact Ev.step (fun k => spec_Remap.j0.eq_2 _ _ _ _ _ k) (evNeg (by decide) (h e tt).1)
          · rw [hq]
            exact Ev.step (fun k => impl_Remap.j0.eq_2 _ _ _ _ k) (evNeg (by decide) (h e tt).2)
      · have hq : ((a.length : Int) != wrap64 ((e.length : Int) - 1)) = true := by rw [hw]; simp; omega
        refine .inl ⟨S0 _ (Ev.bind bs (evPos rfl (Ev.bind cs (evPos rfl ?_)))), Ev.bind bi (evPos rfl (Ev.bind ci (evPos rfl ?_)))⟩
        · rw [hq]; exact noS
        · rw [hq]; exact noI

theorem same_ev (a : List Int) (h : a.length ≤ 1048576) : Ev (fun k => laws_sameInts.f k a a) true := by
  simp only [laws_sameInts.f]
  refine evPos (by trivial) ?_
  refine count (fun k i (_ : Unit) => laws_sameInts.l0 k a a i) a.length (fun _ => ()) true ?_ ?_ 0 (by omega)
  · intro j hj
    refine ⟨0, fun k _ => ?_⟩
    simp only [laws_sameInts.l0]
    rw [if_pos (by omega), if_pos (by omega), if_pos (by omega), if_pos trivial, up1 (by omega)]
  · refine Ev_succ (fun k => ?_)
    simp only [laws_sameInts.l0]
    rw [if_neg (by omega)]
theorem sum_ev (l : List Int) (hn : l.length ≤ 1048576) (P : Nat → Int) (h0 : P 0 = 0) (hs : ∀ j, j < l.length → wrap64 (P j + rd l (j : Int)) = P (j + 1)) : Ev (fun k => laws_sum.f k l) (P l.length) := by
  have main : ∀ t j, j + t = l.length → Ev (fun k => laws_sum.l0 k l (P j) (j : Int)) (P l.length) := by
    intro t
    induction t with
    | zero =>
      intro j hj
      rw [show j = l.length by omega]
      exact Ev.step (fun k => laws_sum.l0.eq_2 _ _ _ k) (evNeg (by omega) (Ev.now _))
    | succ t ih =>
      intro j hj
      refine Ev.step (fun k => laws_sum.l0.eq_2 _ _ _ k) (evPos (by omega) (evPos (by omega) ?_))
      rw [hs j (by omega), up1 (by omega)]
      exact ih (j + 1) (by omega)
  have := main l.length 0 (by omega)
  rw [h0] at this
  exact this
theorem self_tab (x : List Int) : tab x.length (fun j => x.getD j 0) = x := by
  apply List.ext_getElem (tab_length _ _)
  intro i h1 h2
  simp only [tab, List.getElem_map, List.getElem_range, List.getD_eq_getElem?_getD, List.getElem?_eq_getElem h2, Option.getD_some]
theorem own_out {e a : List Int} (h : Amt e a) : OUT e a e = a := by
  have hl := h.len
  refine Eq.trans ?_ (self_tab a)
  unfold OUT
  rw [show e.length - 1 = a.length by omega]
  refine List.map_congr_left fun j hj => ?_
  have hj' := List.mem_range.1 hj
  unfold ot
  rw [h.Fown (j := j + 1) (by omega) _ (Nat.le_refl _), h.Fown (j := j) (by omega) _ (Nat.le_refl _), Nat.min_eq_left (show j + 1 ≤ a.length by omega), Nat.min_eq_left (show j ≤ a.length by omega)]
  show Sa a j + a.getD j 0 - Sa a j = a.getD j 0
  omega
theorem law_end {e a tt : List Int} (h : Amt e a) (ht : Edg tt) : ∀ t j, j + t = tt.length - 1 → Ev (fun k => laws_FnRemapped.l0 k e a tt (OUT e a tt) (j : Int)) true := by
  have hl := h.len
  have hm := h.edg.most
  have h2 := h.edg.two
  have t2 := ht.two
  have t3 := ht.most
  have lo : (OUT e a tt).length = tt.length - 1 := tab_length _ _
  intro t
  induction t with
  | zero =>
    intro j hj
    refine Ev.step (fun k => laws_FnRemapped.l0.eq_2 _ _ _ _ _ k) (evNeg (by omega) (evPos (by omega) (evPos (by omega) ?_)))
    have z0 : rd tt 0 = tt.getD 0 0 := rd_nat tt 0
    have z1 : rd e 0 = e.getD 0 0 := rd_nat e 0
    rw [z0, z1]
    by_cases c : tt.getD 0 0 > e.getD 0 0
    · exact evPos c (Ev.now _)
    refine evNeg c ?_
    rw [down1 (by omega) (by omega), down1 (by omega) (by omega), rd_nat, rd_nat]
    refine evPos (by omega) (evPos (by omega) (evPos (by omega) (evPos (by omega) ?_)))
    by_cases c2 : tt.getD (tt.length - 1) 0 < e.getD (e.length - 1) 0
    · exact evPos c2 (Ev.now _)
    refine evNeg c2 ?_
    have s1 := sum_ev (OUT e a tt) (by omega) (fun j => Fs e a (tt.getD j 0) a.length - Fs e a (tt.getD 0 0) a.length) (by show _ - _ = (0 : Int); omega) (fun i hi => by
      have f0 := h.F0 (tt.getD 0 0) a.length (Nat.le_refl _)
      have f1 := h.F0 (tt.getD (i + 1) 0) a.length (Nat.le_refl _)
      have eo : rd (OUT e a tt) (i : Int) = ot e a tt i := by rw [rd_nat]; exact tab_get _ _ _ (by omega)
      rw [eo]
      show wrap64 (Fs e a (tt.getD i 0) a.length - Fs e a (tt.getD 0 0) a.length + ot e a tt i) = Fs e a (tt.getD (i + 1) 0) a.length - Fs e a (tt.getD 0 0) a.length
      unfold ot
      rw [w64 (by omega) (by omega)]
      omega)
    have s2 := sum_ev a (by omega) (Sa a) rfl (fun i hi => by
      have f1 := h.S0 (i + 1) (by omega)
      rw [rd_nat]
      exact w64 (x := Sa a (i + 1)) (by omega) (by omega))
    refine Ev.bind s1 (Ev.bind s2 ?_)
    show Ev (fun _ => some (Fs e a (tt.getD (OUT e a tt).length 0) a.length - Fs e a (tt.getD 0 0) a.length == Sa a a.length)) true
    rw [lo, h.Flow (x := tt.getD 0 0) (by omega) _ (Nat.le_refl _), h.Fhigh (x := tt.getD (tt.length - 1) 0) (by omega) _ (Nat.le_refl _), Int.sub_zero, beq_self_eq_true]
    exact Ev.now _
  | succ t ih =>
    intro j hj
    have o := h.ot0 ht (j := j) (by omega)
    have eo : rd (OUT e a tt) (j : Int) = ot e a tt j := by rw [rd_nat]; exact tab_get _ _ _ (by omega)
    refine Ev.step (fun k => laws_FnRemapped.l0.eq_2 _ _ _ _ _ k) (evPos (by omega) (evPos (by omega) ?_))
    rw [eo, up1 (by omega)]
    exact evNeg (by omega) (ih (j + 1) (by omega))

/-! the draws -/
theorem edges_draw {l : List Int} (h : Src l) {p : Int} (hp : At l p) : ∃ xs q, Ev (fun k => spec_l11DrawEdges.f k l p 20) (xs, q) ∧ 3 ≤ xs.length ∧ xs.length ≤ 30 ∧ At l q := by
  obtain ⟨n, q, e, n0, n1, hq⟩ := size_ok h hp 6 20 (by omega) (by omega) (by omega)
  obtain ⟨v, q2, e2, v0, v1, hq2⟩ := below_ok h hq 40 (by omega)
  obtain ⟨n, rfl⟩ := Int.eq_ofNat_of_zero_le (show 0 ≤ n by omega)
  have main : ∀ t i (xs : List Int) (p : Int), i + t = n + 1 → xs.length = i + 1 → At l p → ∃ xs' q, Ev (fun k => spec_l11DrawEdges.l0 k ((n + 1 : Nat) : Int) xs (i : Int) l p) (xs', q) ∧ xs'.length = n + 2 ∧ At l q := by
    intro t
    induction t with
    | zero =>
      intro i xs p hi hx hp
      exact ⟨xs, p, Ev.step (fun k => spec_l11DrawEdges.l0.eq_2 _ _ _ _ _ k) (evNeg (by omega) (Ev.now _)), by omega, hp⟩
    | succ t ih =>
      intro i xs p hi hx hp
      obtain ⟨u, q, e, u0, u1, hq⟩ := below_ok h hp 12 (by omega)
      obtain ⟨xs', q', E, hl, hq'⟩ := ih (i + 1) (xs ++ [wrap64 (wrap64 (rd xs (wrap64 ((xs.length : Int) - 1)) + 1) + u)]) q (by omega) (by simp; omega) hq
      have hd : wrap64 ((xs.length : Int) - 1) = ((xs.length - 1 : Nat) : Int) := down1 (by omega) (by omega)
      refine ⟨xs', q', Ev.step (fun k => spec_l11DrawEdges.l0.eq_2 _ _ _ _ _ k) (evPos (by omega) (evPos (by rw [hd]; omega) (evPos (by rw [hd]; omega) ?_))), hl, hq'⟩
      rw [e]
      refine Ev.bind (Ev.now _) (evPos (by omega) ?_)
      rw [up1 (by omega)]
      exact E
  obtain ⟨xs, q3, E, hl, hq3⟩ := main (n + 1) 0 [wrap64 (v - 20)] q2 (by omega) rfl hq2
  refine ⟨xs, q3, ?_, by omega, by omega, hq3⟩
  simp only [spec_l11DrawEdges.f]
  rw [e]
  refine Ev.bind (Ev.now _) ?_
  rw [e2]
  refine Ev.bind (Ev.now _) ?_
  show Ev (fun k => spec_l11DrawEdges.l0 k (wrap64 (1 + (n : Int))) [wrap64 (v - 20)] 0 l q2) (xs, q3)
  rw [show wrap64 (1 + (n : Int)) = ((n + 1 : Nat) : Int) by rw [w64 (by omega) (by omega)]; omega]
  exact E
theorem j1_ok {l : List Int} (h : Src l) {p : Int} (hp : At l p) (e a tt : List Int) (e2 : 2 ≤ e.length) (e3 : e.length ≤ 30) (a1 : 1 ≤ a.length) (a2 : a.length ≤ 30) (t1 : 1 ≤ tt.length) (t2 : tt.length ≤ 30) : ∃ e' a' t' : List Int, Ev (fun k => spec_DrawRemap.j1 k e a tt l p) (e', a', t') ∧ e'.length ≤ 100 ∧ a'.length ≤ 100 ∧ t'.length ≤ 100 := by
  obtain ⟨v, q, ev, v0, v1, hq⟩ := below_ok h hp 24 (by omega)
  have J2 : ∀ x y z : List Int, Ev (fun k => spec_DrawRemap.j2 k x y z) (x, y, z) := fun x y z => Ev.step (fun k => spec_DrawRemap.j2.eq_2 _ _ _ k) (Ev.now _)
  have hd : wrap64 ((tt.length : Int) - 1) = ((tt.length - 1 : Nat) : Int) := down1 (by omega) (by omega)
  have go : ∀ (e' a' t' : List Int) (F : Nat → Int × Int → Option (List Int × List Int × List Int)), (∀ k, spec_DrawRemap.j1 (k + 1) e a tt l p = (spec_l1Rd_below.f l p 24).bind (F k)) → Ev (fun k => F k (v, q)) (e', a', t') → Ev (fun k => spec_DrawRemap.j1 k e a tt l p) (e', a', t') := fun e' a' t' F hF hE => by
    refine Ev.step hF ?_
    rw [ev]
    exact Ev.bind (Ev.now _) hE
  by_cases k0 : v = 0
  · obtain ⟨u, q4, e4, u0, u1, hq4⟩ := below_ok h hq 3 (by omega)
    refine ⟨e, a.set (0 : Int).toNat (rd [-1, 1000000000000, 1000000000001] u), tt, go _ _ _ _ (fun k => spec_DrawRemap.j1.eq_2 _ _ _ _ _ k) (evPos k0 (Ev.bind (Ev.now _) ?_)), by omega, by rw [List.length_set]; omega, by omega⟩
    rw [e4]
    exact Ev.bind (Ev.now _) (evPos u0 (evPos (by simpa using u1) (evPos (by omega) (J2 _ _ _))))
  by_cases k1 : v = 1
  · obtain ⟨u, q4, e4, u0, u1, hq4⟩ := below_ok h hq 3 (by omega)
    refine ⟨e.set (0 : Int).toNat (rd [-1000000, -1000001, rd e 1] u), a, tt, go _ _ _ _ (fun k => spec_DrawRemap.j1.eq_2 _ _ _ _ _ k) (evNeg k0 (evPos k1 (evPos (by omega) (Ev.bind (Ev.now _) ?_)))), by rw [List.length_set]; omega, by omega, by omega⟩
    rw [e4]
    exact Ev.bind (Ev.now _) (evPos u0 (evPos (by simpa using u1) (evPos (by omega) (J2 _ _ _))))
  by_cases k2 : v = 2
  · obtain ⟨u, q4, e4, u0, u1, hq4⟩ := below_ok h hq 3 (by omega)
    refine ⟨e, a, tt.set (wrap64 ((tt.length : Int) - 1)).toNat (rd [1000000, 1000001, rd tt 0] u), go _ _ _ _ (fun k => spec_DrawRemap.j1.eq_2 _ _ _ _ _ k) (evNeg k0 (evNeg k1 (evPos k2 (evPos (by omega) (Ev.bind (Ev.now _) ?_))))), by omega, by omega, by rw [List.length_set]; omega⟩
    rw [e4]
    exact Ev.bind (Ev.now _) (evPos u0 (evPos (by simpa using u1) (evPos (by rw [hd]; omega) (evPos (by rw [hd]; omega) (J2 _ _ _)))))
  by_cases k3 : v = 3
  · exact ⟨e, a ++ [1], tt, go _ _ _ _ (fun k => spec_DrawRemap.j1.eq_2 _ _ _ _ _ k) (evNeg k0 (evNeg k1 (evNeg k2 (evPos k3 (Ev.bind (Ev.now _) (evPos (by show a.length + 1 < _; omega) (J2 _ _ _))))))), by omega, by simp; omega, by omega⟩
  by_cases k4 : v = 4
  · exact ⟨e, a, tt.take (1 : Int).toNat, go _ _ _ _ (fun k => spec_DrawRemap.j1.eq_2 _ _ _ _ _ k) (evNeg k0 (evNeg k1 (evNeg k2 (evNeg k3 (evPos k4 (evPos (by omega) (J2 _ _ _))))))), by omega, by omega, by rw [List.length_take]; omega⟩
  by_cases k5 : v = 5
  · exact ⟨e, a, [] ++ e, go _ _ _ _ (fun k => spec_DrawRemap.j1.eq_2 _ _ _ _ _ k) (evNeg k0 (evNeg k1 (evNeg k2 (evNeg k3 (evNeg k4 (evPos k5 (Ev.bind (Ev.now _) (evPos (by show 0 + e.length < _; omega) (J2 _ _ _))))))))), by omega, by omega, by show e.length ≤ _; omega⟩
  · exact ⟨e, a, tt, go _ _ _ _ (fun k => spec_DrawRemap.j1.eq_2 _ _ _ _ _ k) (evNeg k0 (evNeg k1 (evNeg k2 (evNeg k3 (evNeg k4 (evNeg k5 (J2 _ _ _))))))), by omega, by omega, by omega⟩
theorem l0_ok {l : List Int} (h : Src l) (e : List Int) (e2 : 3 ≤ e.length) (e3 : e.length ≤ 30) : ∀ t i (a : List Int) (p : Int), i + 1 + t = e.length → a.length = i → At l p → ∃ e' a' t' : List Int, Ev (fun k => spec_DrawRemap.l0 k e a (i : Int) l p) (e', a', t') ∧ e'.length ≤ 100 ∧ a'.length ≤ 100 ∧ t'.length ≤ 100 := by
  intro t
  induction t with
  | zero =>
    intro i a p hi ha hp
    obtain ⟨tt, q, E, t1, t2, hq⟩ := edges_draw h hp
    obtain ⟨b, q2, eb, hq2⟩ := once_ok h hq 3 (by omega)
    have hd : wrap64 ((e.length : Int) - 1) = ((e.length - 1 : Nat) : Int) := down1 (by omega) (by omega)
    cases b with
    | false =>
      obtain ⟨e', a', t', R, r1, r2, r3⟩ := j1_ok h hq2 e a tt (by omega) e3 (by omega) (by omega) (by omega) t2
      refine ⟨e', a', t', Ev.step (fun k => spec_DrawRemap.l0.eq_2 _ _ _ _ _ k) ?_, r1, r2, r3⟩
      rw [up1 (by omega)]
      refine evNeg (by omega) (Ev.bind E ?_)
      rw [eb]
      exact Ev.bind (Ev.now _) (evNeg (by intro h_; cases h_) R)
    | true =>
      obtain ⟨e', a', t', R, r1, r2, r3⟩ := j1_ok h hq2 e a ([wrap64 (rd e 0 - 3)] ++ (([] ++ tt.take 0) ++ [wrap64 (rd e (wrap64 ((e.length : Int) - 1)) + 2)])) (by omega) e3 (by omega) (by omega) (by simp) (by simp)
      refine ⟨e', a', t', Ev.step (fun k => spec_DrawRemap.l0.eq_2 _ _ _ _ _ k) ?_, r1, r2, r3⟩
      rw [up1 (by omega)]
      refine evNeg (by omega) (Ev.bind E ?_)
      rw [eb]
      refine Ev.bind (Ev.now _) (evPos rfl (evPos (by omega) (Ev.bind (Ev.now _) (Ev.bind (Ev.now _) (evPos (by omega) (Ev.bind (Ev.now _) (evPos (by simp) (Ev.bind (Ev.now _) ?_))))))))
      refine evPos (by rw [hd]; omega) (evPos (by rw [hd]; omega) (Ev.bind (Ev.now _) (evPos (by simp) (Ev.bind (Ev.now _) (evPos (by simp) R)))))
  | succ t ih =>
    intro i a p hi ha hp
    obtain ⟨u, q, eu, u0, u1, hq⟩ := below_ok h hp 1000 (by omega)
    obtain ⟨e', a', t', R, r1, r2, r3⟩ := ih (i + 1) (a ++ [u]) q (by omega) (by simp; omega) hq
    refine ⟨e', a', t', Ev.step (fun k => spec_DrawRemap.l0.eq_2 _ _ _ _ _ k) ?_, r1, r2, r3⟩
    rw [up1 (by omega)]
    refine evPos (by omega) ?_
    rw [eu]
    exact Ev.bind (Ev.now _) (Ev.bind (Ev.now _) (evPos (by show a.length + 1 < _; omega) R))

theorem FnRemapped : laws_FnRemapped.Pure := by
  intro l _ _ hb
  refine Ev.rounds ?_
  simp only [laws_FnRemapped.f, laws_big.f, Option.bind_some]
  by_cases big : decide ((l.length : Int) > 1048576) = true
  · exact evPos big (Ev.now _)
  refine evNeg big ?_
  have h : Src l := ⟨by have := big; simp at this; omega, fun x hx => by have := hb x hx; simp [Lit.wf] at this; exact this⟩
  have h0 : At l 0 := ⟨by omega, by omega⟩
  obtain ⟨es, q, E, s1, s2, hq⟩ := edges_draw h h0
  obtain ⟨e, a, tt, R, r1, r2, r3⟩ := l0_ok h es s1 s2 (es.length - 1) 0 [] q (by omega) rfl hq
  have hD : Ev (fun k => spec_DrawRemap.f k l) (e, a, tt) := by
    simp only [spec_DrawRemap.f]
    exact Ev.bind (a := (l, 0)) (Ev.now _) (Ev.bind E R)
  refine Ev.bind hD ?_
  rcases remap_cases e a tt (by omega) (by omega) (by omega) with ⟨hs, hi⟩ | ⟨hA, ht, hs, hi, ho⟩
  · refine Ev.bind hs (Ev.bind hi (evNeg (by show ¬ ((false != false) = true); decide) (Ev.bind (same_ev [] (by decide)) ?_)))
    exact Ev.step (fun k => laws_FnRemapped.j0.eq_2 _ _ _ _ _ _ k) (evNeg (by decide) (evNeg (by decide) (Ev.now _)))
  · have lo : (OUT e a tt).length = tt.length - 1 := tab_length _ _
    refine Ev.bind hs (Ev.bind hi (evNeg (by show ¬ ((true != true) = true); decide) (Ev.bind (same_ev _ (by show (OUT e a tt).length ≤ _; omega)) ?_)))
    rw [own_out hA] at ho
    refine Ev.step (fun k => laws_FnRemapped.j0.eq_2 _ _ _ _ _ _ k) (evNeg (by decide) (evPos rfl (Ev.bind ho (evPos rfl (Ev.bind (same_ev a (by omega)) ?_)))))
    refine Ev.step (fun k => laws_FnRemapped.j1.eq_2 _ _ _ _ _ k) (evNeg (by decide) ?_)
    exact law_end hA ht (tt.length - 1) 0 (by omega)
end Go.Proofs.Ytmndffnjejgfoab.Pure
