/- The plain statement of the law FnExactNormals: program and reference find the same normals for all series of years, and neither holds on to what it was handed; no condition. -/
import Derived.Test.YteobnbichpadjabI64
import Derived.Test.YteobnbichpadjabInAll
import Derived.Test.YteobnbichpadjabQx1
import Derived.Test.YteobnbichpadjabQx11
import Derived.Test.YteobnbichpadjabQx14
import Derived.Test.YteobnbichpadjabQx15
import Derived.Test.YteobnbichpadjabQx16
import Derived.Test.YteobnbichpadjabQx17
import Derived.Test.YteobnbichpadjabQx18
import Derived.Test.YteobnbichpadjabQx19
import Derived.Test.YteobnbichpadjabQx20
import Derived.Test.YteobnbichpadjabQx3
import Derived.Test.YteobnbichpadjabQx4
import Derived.Test.YteobnbichpadjabQx5
import Derived.Test.YteobnbichpadjabQx8
import Derived.Test.YteobnbichpadjabQx9
set_option linter.unusedVariables false
set_option linter.unusedSimpArgs false
namespace Go.Proofs.Yteobnbichpadjab.Pure
open Go.RowKit Go.Proofs.Yteobnbichpadjab.Q Go.Proofs.Yteobnbichpadjab.Gen Go.Proofs.YteobnbichpadjabW.PrintWords Go.Proofs.YteobnbichpadjabW.PrintMore

theorem rdL (l : List (List Int)) (j : Nat) : rd_L1 l (j : Int) = l.getD j [] := by unfold rd_L1; rw [Int.toNat_natCast]
theorem mem_getD {α} (l : List α) (d : α) {j : Nat} (h : j < l.length) : l.getD j d ∈ l := by
  rw [List.getD_eq_getElem?_getD, List.getElem?_eq_getElem h]
  exact List.getElem_mem h

/-! sizes -/
theorem szS_ev (r : List Int) (a : Nat) (ha : a ≤ 1048576) (hr : r.length ≤ 9223372036854775807) : laws_szInt64S.f r (a : Int) = some (if r.length ≤ a then ((a - r.length : Nat) : Int) else -1) := by
  unfold laws_szInt64S.f
  by_cases c : r.length ≤ a
  · have e : wrap64 ((a : Int) - (r.length : Int)) = ((a - r.length : Nat) : Int) := by unfold wrap64; omega
    rw [e, if_neg (by omega), if_pos c]
  · have e : wrap64 ((a : Int) - (r.length : Int)) < 0 := by unfold wrap64; omega
    rw [if_pos e, if_neg c]
theorem szSS_ev (l : List (List Int)) (hl : l.length ≤ 9223372036854775807) (hr : ∀ y ∈ l, y.length ≤ 9223372036854775807) : ∃ r : Int, Ev (fun k => laws_szInt64SS.f k l 1048576) r ∧ (¬ r < 0 → l.length ≤ 1048576 ∧ ∀ y ∈ l, y.length ≤ 1048576) := by
  simp only [laws_szInt64SS.f]
  by_cases c : l.length ≤ 1048576
  · have e : wrap64 (1048576 - (l.length : Int)) = ((1048576 - l.length : Nat) : Int) := by unfold wrap64; omega
    rw [e]
    have main : ∀ t j a, j + t = l.length → a ≤ 1048576 → ∃ r : Int, Ev (fun k => laws_szInt64SS.l0 k l (a : Nat) (j : Int)) r ∧ (¬ r < 0 → ∀ i, j ≤ i → i < l.length → (l.getD i []).length ≤ 1048576) := by
      intro t
      induction t with
      | zero =>
        intro j a hj ha
        refine ⟨(a : Int), Ev.step (fun k => laws_szInt64SS.l0.eq_2 _ _ _ k) (evNeg (by omega) (Ev.now _)), fun _ i h1 h2 => by omega⟩
      | succ t ih =>
        intro j a hj ha
        have hm := hr _ (mem_getD l [] (j := j) (by omega))
        have s := szS_ev (l.getD j []) a ha hm
        by_cases c : (l.getD j []).length ≤ a
        · rw [if_pos c] at s
          obtain ⟨r, h1, h2⟩ := ih (j + 1) (a - (l.getD j []).length) (by omega) (by omega)
          refine ⟨r, Ev.step (fun k => laws_szInt64SS.l0.eq_2 _ _ _ k) (evPos (by omega) (evPos (by omega) ?_)), ?_⟩
          · rw [rdL, s, up1 (by omega)]
            exact Ev.bind (Ev.now _) (evNeg (by omega) h1)
          · intro hn i hi1 hi2
            by_cases e : i = j
            · rw [e]; omega
            · exact h2 hn i (by omega) hi2
        · rw [if_neg c] at s
          refine ⟨-1, Ev.step (fun k => laws_szInt64SS.l0.eq_2 _ _ _ k) (evPos (by omega) (evPos (by omega) ?_)), fun h => absurd (by decide) h⟩
          rw [rdL, s]
          exact Ev.bind (Ev.now _) (evPos (by decide) (Ev.now _))
    obtain ⟨r, h1, h2⟩ := main l.length 0 (1048576 - l.length) (by omega) (by omega)
    refine ⟨r, evNeg (by omega) h1, fun h => ⟨c, fun y hy => ?_⟩⟩
    obtain ⟨i, hi, e⟩ := List.getElem_of_mem hy
    have := h2 h i (Nat.zero_le _) hi
    rw [List.getD_eq_getElem?_getD, List.getElem?_eq_getElem hi] at this
    rw [← e]
    exact this
  · have e : wrap64 (1048576 - (l.length : Int)) < 0 := by unfold wrap64; omega
    exact ⟨-1, evPos e (Ev.now _), fun h => absurd (by decide) h⟩

/-! copies, rows held equal, marks -/
structure Fit (l : List (List Int)) : Prop where
  n : l.length ≤ 1048576
  r : ∀ y ∈ l, y.length ≤ 1048576
theorem Fit.at {l : List (List Int)} (h : Fit l) {j : Nat} (hj : j < l.length) : (l.getD j []).length ≤ 1048576 := h.r _ (mem_getD l [] hj)
theorem toSS_ev (l : List (List Int)) (h : Fit l) : Ev (fun k => laws_toInt64SS.f k l) l := by
  have hn := h.n
  simp only [laws_toInt64SS.f]
  refine evPos (by omega) (evPos (by simp; omega) ?_)
  rw [Int.toNat_natCast]
  have main : ∀ t j, j + t = l.length → Ev (fun k => laws_toInt64SS.l0 k l (mixed l (List.replicate l.length []) j) (j : Int)) l := by
    intro t
    induction t with
    | zero =>
      intro j hj
      have : mixed l (List.replicate l.length []) j = l := by
        rw [show j = l.length by omega, mixed_all _ _ (by simp)]
      refine Ev.step (fun k => laws_toInt64SS.l0.eq_2 _ _ _ k) (evNeg (by omega) ?_)
      rw [this]
      exact Ev.now _
    | succ t ih =>
      intro j hj
      refine Ev.step (fun k => laws_toInt64SS.l0.eq_2 _ _ _ k) (evPos (by omega) (evPos (by omega) ?_))
      rw [rdL, up1 (by omega), Int.toNat_natCast]
      refine Ev.bind (toInt64S_ev _ (h.at (by omega))) (evPos (by rw [mixed_length _ _ _ (by simp)]; omega) ?_)
      rw [mixed_set _ _ _ _ (by simp) (by omega)]
      exact ih (j + 1) (by omega)
  have := main l.length 0 (by omega)
  rw [mixed_zero] at this
  exact this
theorem eqSS_ev (l : List (List Int)) (h : Fit l) : Ev (fun k => laws_eqInt64SS.f k l l) true := by
  have hn := h.n
  simp only [laws_eqInt64SS.f]
  refine evPos (by trivial) ?_
  have main : ∀ t j, j + t = l.length → Ev (fun k => laws_eqInt64SS.l0 k l l (j : Int)) true := by
    intro t
    induction t with
    | zero =>
      intro j hj
      exact Ev.step (fun k => laws_eqInt64SS.l0.eq_2 _ _ _ k) (evNeg (by omega) (Ev.now _))
    | succ t ih =>
      intro j hj
      have := h.at (j := j) (by omega)
      refine Ev.step (fun k => laws_eqInt64SS.l0.eq_2 _ _ _ k) (evPos (by omega) (evPos (by omega) (evPos (by omega) ?_)))
      rw [rdL, up1 (by omega)]
      exact Ev.bind (eqInt64S_ev _ (by omega)) (evPos rfl (ih (j + 1) (by omega)))
  exact main l.length 0 (by omega)
theorem markSS_ev (l : List (List Int)) (h : Fit l) : ∃ p : Int × List (List Int), Ev (fun k => laws_markInt64SS.f k l 1) p ∧ ¬ p.1 < 0 := by
  have hn := h.n
  simp only [laws_markInt64SS.f]
  have main : ∀ t j a (s : List (List Int)), j + t = l.length → s.length = l.length → (∀ i, j ≤ i → s.getD i [] = l.getD i []) → a ≤ 1 + j * 1048576 → ∃ p : Int × List (List Int), Ev (fun k => laws_markInt64SS.l0 k s (a : Nat) (j : Int)) p ∧ ¬ p.1 < 0 := by
    intro t
    induction t with
    | zero =>
      intro j a s hj hs hi ha
      exact ⟨((a : Int), s), Ev.step (fun k => laws_markInt64SS.l0.eq_2 _ _ _ k) (evNeg (by omega) (Ev.now _)), by show ¬ (a : Int) < 0; omega⟩
    | succ t ih =>
      intro j a s hj hs hi ha
      have hf := h.at (j := j) (by omega)
      have hm := markInt64S_ev (l.getD j []) a (by omega) (by omega)
      obtain ⟨p, h1, h2⟩ := ih (j + 1) (a + (l.getD j []).length) (s.set j (marks a (l.getD j []).length)) (by omega) (by rw [List.length_set]; exact hs) (fun i hji => by
        rw [← hi i (by omega), List.getD_eq_getElem?_getD, List.getElem?_set_ne (by omega), ← List.getD_eq_getElem?_getD]) (by omega)
      refine ⟨p, Ev.step (fun k => laws_markInt64SS.l0.eq_2 _ _ _ k) (evPos (by omega) (evPos (by omega) ?_)), h2⟩
      rw [rdL, hi j (Nat.le_refl _), up1 (by omega), Int.toNat_natCast]
      exact Ev.bind hm h1
  exact main l.length 0 1 l (by omega) rfl (fun _ _ => rfl) (by omega)

/-! one number nearest to a quotient -/
structure Flo (s n F : Int) : Prop where
  lo : F * n ≤ s
  hi : s < F * n + n
  b0 : -10000000 ≤ F
  b1 : F ≤ 10000000
structure Num (s n : Int) : Prop where
  n0 : 1 ≤ n
  n1 : n ≤ 100
  s0 : -10000000 ≤ s
  s1 : s ≤ 10000000
theorem flo (s n : Int) (h : Num s n) : Flo s n (s / n) := by
  obtain ⟨h1, h2, h3, h4⟩ := h
  have e := Int.mul_ediv_add_emod s n
  rw [Int.mul_comm] at e
  have e1 := Int.emod_nonneg s (show n ≠ 0 by omega)
  have e2 := Int.emod_lt_of_pos s (show 0 < n by omega)
  refine ⟨by omega, by omega, ?_, ?_⟩
  · exact (Int.le_ediv_iff_mul_le (by omega)).2 (by omega)
  · exact Int.ediv_le_of_le_mul (by omega) (by omega)
theorem tdv (s n : Int) (h : Num s n) : (Int.tdiv s n = s / n ∧ (Int.tmod s n = 0 ∨ 0 ≤ s)) ∨ (Int.tdiv s n = s / n + 1 ∧ Int.tmod s n ≠ 0 ∧ s < 0 ∧ s < (s / n + 1) * n) := by
  have hn : 0 < n := by have := h.n0; omega
  have e := Int.tdiv_eq_ediv (a := s) (b := n)
  rw [Int.sign_eq_one_of_pos hn] at e
  by_cases c : 0 ≤ s ∨ n ∣ s
  · rw [if_pos c, Int.add_zero] at e
    exact .inl ⟨e, c.elim .inr (fun h => .inl (Int.tmod_eq_zero_of_dvd h))⟩
  · rw [if_neg c] at e
    have f := (flo s n h).hi
    refine .inr ⟨e, fun h => c (.inr (Int.dvd_of_tmod_eq_zero h)), by omega, ?_⟩
    rw [Int.add_mul, Int.one_mul]
    exact f
theorem floorDiv_ev (s n : Int) (h : Num s n) : impl_floorDiv.f s n = some (s / n) := by
  have f := flo s n h
  obtain ⟨f1, f2, f3, f4⟩ := f
  have hn := h.n0
  unfold impl_floorDiv.f
  rw [if_neg (by omega)]
  rcases tdv s n h with ⟨e, c⟩ | ⟨e, c1, c2, _⟩
  · rw [e, w64 (by omega) (by omega)]
    rcases c with c | c
    · rw [if_pos c]
    · rw [decide_eq_false (by omega : ¬ s < 0), decide_eq_false (by omega : ¬ n < 0)]
      split
      · rfl
      · rw [if_neg (by decide)]
  · rw [if_neg c1, e, decide_eq_true c2, decide_eq_false (by omega : ¬ n < 0), if_pos (by decide), w64 (x := s / n + 1) (by omega) (by omega), w64 (by omega) (by omega)]
    congr 1
    omega
def NB (s n : Int) : Int := if 2 * (s - s / n * n) > n then s / n + 1 else if 2 * (s - s / n * n) = n then (if Int.tmod (s / n) 2 = 0 then s / n else s / n + 1) else s / n
theorem nearestBy_ev (s n : Int) (h : Num s n) : impl_nearestBy.f s n = some (NB s n) := by
  unfold impl_nearestBy.f NB
  rw [floorDiv_ev s n h, Option.bind_some]
  obtain ⟨f1, f2, f3, f4⟩ := flo s n h
  obtain ⟨h1, h2, h3, h4⟩ := h
  generalize s / n = F at f1 f2 f3 f4
  rw [w64 (x := F * n) (by omega) (by omega), w64 (x := s - F * n) (by omega) (by omega), w64 (x := 2 * (s - F * n)) (by omega) (by omega), w64 (x := F + 1) (by omega) (by omega)]
  split
  · rfl
  · split
    · split <;> rfl
    · rfl

/-! sums of columns -/
def CS (l : List (List Int)) (c : Nat) : Nat → Int
  | 0 => 0
  | m + 1 => CS l c m + (l.getD m []).getD c 0
def okS (l : List Int) : Bool := l.all fun x => inS x (-100000) 100000
theorem okS_get {l : List Int} (h : okS l = true) (j : Nat) (hj : j < l.length) : -100000 ≤ l.getD j 0 ∧ l.getD j 0 ≤ 100000 := by
  have h' := List.all_eq_true.1 h (l.getD j 0) (mem_getD l 0 hj)
  exact (inS_iff _ _ _).1 h'
def rok (r : List Int) : Bool := decide (1 ≤ r.length ∧ r.length ≤ 500) && okS r
theorem specOk_ev (l : List Int) (h : l.length ≤ 1048576) : Ev (fun k => spec_l19Ok.f k l) (rok l) := by
  unfold rok
  simp only [spec_l19Ok.f]
  by_cases c1 : 1 ≤ l.length
  · refine evPos (by omega) ?_
    by_cases c2 : l.length ≤ 500
    · refine evPos (by omega) ?_
      have := all_spec l (l.length : Int) (-100000) 100000 (by omega)
      rw [decide_eq_true rfl, Bool.true_and] at this
      rw [decide_eq_true ⟨c1, c2⟩, Bool.true_and]
      exact Ev.bind this (Ev.now _)
    · rw [decide_eq_false (fun h => c2 h.2), Bool.false_and]
      exact evNeg (by omega) (Ev.now _)
  · rw [decide_eq_false (fun h => c1 h.1), Bool.false_and]
    exact evNeg (by omega) (Ev.now _)
theorem implOk_ev (l : List Int) (h : l.length ≤ 1048576) : Ev (fun k => impl_seriesOk.f k l) (rok l) := by
  unfold rok
  simp only [impl_seriesOk.f, in_s]
  by_cases c : 1 ≤ l.length ∧ l.length ≤ 500
  · rw [(inS_iff (l.length : Int) 1 500).2 ⟨by omega, by omega⟩]
    have := all_impl l (l.length : Int) (-100000) 100000 (by omega)
    rw [decide_eq_true rfl, Bool.true_and] at this
    rw [decide_eq_true c, Bool.true_and]
    exact Ev.bind (Ev.now _) (evPos rfl (Ev.bind this (Ev.now _)))
  · rw [decide_eq_false c, Bool.false_and]
    have e : inS (l.length : Int) 1 500 = false := by
      cases hh : inS (l.length : Int) 1 500 with
      | false => rfl
      | true => rw [inS_iff] at hh; exact absurd ⟨by omega, by omega⟩ c
    rw [e]
    exact Ev.bind (Ev.now _) (evNeg (by decide) (Ev.now _))
/-- Every row is right, and as long as the first one. -/
structure Yrs (l : List (List Int)) (W : Nat) : Prop where
  n0 : 1 ≤ l.length
  n1 : l.length ≤ 100
  w0 : W = (l.getD 0 []).length
  wm : W ≤ 500
  row : ∀ j, j < l.length → okS (l.getD j []) = true ∧ (l.getD j []).length = W
theorem Yrs.cs {l : List (List Int)} {W : Nat} (h : Yrs l W) {c : Nat} (hc : c < W) : ∀ m, m ≤ l.length → -100000 * (m : Int) ≤ CS l c m ∧ CS l c m ≤ 100000 * (m : Int) := by
  intro m
  induction m with
  | zero => intro _; exact ⟨by show _ ≤ (0 : Int); omega, by show (0 : Int) ≤ _; omega⟩
  | succ m ih =>
    intro hm
    have := ih (by omega)
    obtain ⟨r1, r2⟩ := h.row m (by omega)
    have b := okS_get r1 c (by omega)
    unfold CS
    omega
theorem Yrs.num {l : List (List Int)} {W : Nat} (h : Yrs l W) {c : Nat} (hc : c < W) : Num (CS l c l.length) (l.length : Int) := by
  have := h.cs hc l.length (Nat.le_refl _)
  have := h.n0
  have := h.n1
  exact ⟨by omega, by omega, by omega, by omega⟩
def col (l : List (List Int)) (c : Nat) : Int := NB (CS l c l.length) (l.length : Int)
theorem sums_impl {l : List (List Int)} {W : Nat} (h : Yrs l W) {c : Nat} (hc : c < W) (x6 : List Int) (R : List Int × Bool) (hx : x6.length ≤ 500)
    (next : Ev (fun k => impl_Normals.l1 k l (x6 ++ [col l c]) (W : Int) ((c + 1 : Nat) : Int)) R) :
    Ev (fun k => impl_Normals.l2 k l x6 (c : Int) 0 (W : Int) (c : Int) l (l.length : Int) 0) R := by
  have n1 := h.n1
  have wm := h.wm
  have main : ∀ t j, j + t = l.length → Ev (fun k => impl_Normals.l2 k l x6 (c : Int) (CS l c j) (W : Int) (c : Int) l (l.length : Int) (j : Int)) R := by
    intro t
    induction t with
    | zero =>
      intro j hj
      obtain rfl : j = l.length := by omega
      refine Ev.step (fun k => impl_Normals.l2.eq_2 _ _ _ _ _ _ _ _ _ k) (evNeg (by omega) ?_)
      rw [nearestBy_ev _ _ (h.num hc), up1 (by omega)]
      exact Ev.bind (Ev.now _) (evPos (by omega) next)
    | succ t ih =>
      intro j hj
      obtain ⟨r1, r2⟩ := h.row j (by omega)
      have b := h.cs hc (j + 1) (by omega)
      have e : CS l c (j + 1) = CS l c j + (l.getD j []).getD c 0 := rfl
      refine Ev.step (fun k => impl_Normals.l2.eq_2 _ _ _ _ _ _ _ _ _ k) (evPos (by omega) (evPos (by omega) (evPos (by omega) (evPos (by omega) ?_))))
      rw [rdL, rd_nat, ← e, w64 (x := CS l c (j + 1)) (by omega) (by omega), up1 (by omega)]
      exact evPos (by omega) (ih (j + 1) (by omega))
  exact main l.length 0 (by omega)
theorem cols_impl {l : List (List Int)} {W : Nat} (h : Yrs l W) : ∀ t c, c + t = W → Ev (fun k => impl_Normals.l1 k l (tab c (col l)) (W : Int) (c : Int)) (tab W (col l), true) := by
  have wm := h.wm
  intro t
  induction t with
  | zero =>
    intro c hc
    obtain rfl : c = W := by omega
    exact Ev.step (fun k => impl_Normals.l1.eq_2 _ _ _ _ k) (evNeg (by omega) (Ev.now _))
  | succ t ih =>
    intro c hc
    refine Ev.step (fun k => impl_Normals.l1.eq_2 _ _ _ _ k) (evPos (by omega) ?_)
    refine sums_impl h (by omega) _ _ (by rw [tab_length]; omega) ?_
    rw [← tab_succ]
    exact ih (c + 1) (by omega)
theorem sums_spec {l : List (List Int)} {W : Nat} (h : Yrs l W) {c : Nat} (hc : c < W) (x4 : List Int) (R : List Int × Bool) (hx : x4.length ≤ 500)
    (next : Ev (fun k => spec_Normals.l1 k l (x4 ++ [col l c]) (l.length : Int) ((c + 1 : Nat) : Int)) R) :
    Ev (fun k => spec_Normals.l2 k l x4 (l.length : Int) (c : Int) 0 0) R := by
  have n1 := h.n1
  have wm := h.wm
  have hN := h.num hc
  have fin : Ev (fun k => spec_Normals.l3 k l x4 (l.length : Int) (c : Int) (CS l c l.length) (CS l c l.length / (l.length : Int))) R := by
    obtain ⟨f1, f2, f3, f4⟩ := flo _ _ hN
    have hcol : col l c = NB (CS l c l.length) (l.length : Int) := rfl
    unfold NB at hcol
    obtain ⟨h1, h2, h3, h4⟩ := hN
    generalize CS l c l.length = s at *
    generalize s / (l.length : Int) = F at *
    refine Ev.step (fun k => spec_Normals.l3.eq_2 _ _ _ _ _ _ k) ?_
    rw [w64 (x := F * (l.length : Int)) (by omega) (by omega), w64 (x := s - F * (l.length : Int)) (by omega) (by omega), w64 (x := 2 * (s - F * (l.length : Int))) (by omega) (by omega), w64 (x := F + 1) (by omega) (by omega), up1 (by omega)]
    refine evNeg (by omega) ?_
    by_cases c1 : 2 * (s - F * (l.length : Int)) > (l.length : Int)
    · rw [if_pos c1] at hcol
      rw [hcol] at next
      exact evPos c1 (evPos (by omega) next)
    · rw [if_neg c1] at hcol
      refine evNeg c1 ?_
      by_cases c2 : 2 * (s - F * (l.length : Int)) = (l.length : Int)
      · rw [if_pos c2] at hcol
        refine evPos c2 ?_
        by_cases c3 : Int.tmod F 2 = 0
        · rw [if_pos c3] at hcol
          rw [hcol] at next
          exact evPos c3 (evPos (by omega) next)
        · rw [if_neg c3] at hcol
          rw [hcol] at next
          exact evNeg c3 (evPos (by omega) next)
      · rw [if_neg c2] at hcol
        rw [hcol] at next
        exact evNeg c2 (evPos (by omega) next)
  have start : Ev (fun k => spec_Normals.l3 k l x4 (l.length : Int) (c : Int) (CS l c l.length) (Int.tdiv (CS l c l.length) (l.length : Int))) R := by
    rcases tdv _ _ hN with ⟨e, _⟩ | ⟨e, _, _, c2⟩
    · rw [e]; exact fin
    · rw [e]
      obtain ⟨f1, f2, f3, f4⟩ := flo _ _ hN
      obtain ⟨h1, h2, h3, h4⟩ := hN
      refine Ev.step (fun k => spec_Normals.l3.eq_2 _ _ _ _ _ _ k) ?_
      have e2 : (CS l c l.length / (l.length : Int) + 1) * (l.length : Int) = CS l c l.length / (l.length : Int) * (l.length : Int) + (l.length : Int) := by rw [Int.add_mul, Int.one_mul]
      refine evPos ?_ ?_
      · rw [e2] at c2 ⊢
        generalize CS l c l.length / (l.length : Int) * (l.length : Int) = P at *
        rw [w64 (by omega) (by omega)]
        exact c2
      · rw [Int.add_sub_cancel, w64 (x := CS l c l.length / (l.length : Int)) (by omega) (by omega)]
        exact fin
  have main : ∀ t j, j + t = l.length → Ev (fun k => spec_Normals.l2 k l x4 (l.length : Int) (c : Int) (CS l c j) (j : Int)) R := by
    intro t
    induction t with
    | zero =>
      intro j hj
      obtain rfl : j = l.length := by omega
      have n0 := h.n0
      refine Ev.step (fun k => spec_Normals.l2.eq_2 _ _ _ _ _ _ k) (evNeg (by omega) (evNeg (by omega) ?_))
      have b : -10000001 ≤ Int.tdiv (CS l c l.length) (l.length : Int) ∧ Int.tdiv (CS l c l.length) (l.length : Int) ≤ 10000001 := by
        obtain ⟨f1, f2, f3, f4⟩ := flo _ _ hN
        rcases tdv _ _ hN with ⟨e, _⟩ | ⟨e, _⟩ <;> rw [e] <;> omega
      rw [w64 (by omega) (by omega)]
      exact start
    | succ t ih =>
      intro j hj
      obtain ⟨r1, r2⟩ := h.row j (by omega)
      have b := h.cs hc (j + 1) (by omega)
      have e : CS l c (j + 1) = CS l c j + (l.getD j []).getD c 0 := rfl
      refine Ev.step (fun k => spec_Normals.l2.eq_2 _ _ _ _ _ _ k) (evPos (by omega) (evPos (by omega) (evPos (by omega) ?_)))
      rw [rdL, rd_nat, ← e, w64 (x := CS l c (j + 1)) (by omega) (by omega), up1 (by omega)]
      exact evPos (by omega) (ih (j + 1) (by omega))
  exact main l.length 0 (by omega)
theorem cols_spec {l : List (List Int)} {W : Nat} (h : Yrs l W) : ∀ t c, c + t = W → Ev (fun k => spec_Normals.l1 k l (tab c (col l)) (l.length : Int) (c : Int)) (tab W (col l), true) := by
  have wm := h.wm
  have n0 := h.n0
  have r0 : (rd_L1 l 0).length = W := by rw [h.w0]; exact congrArg List.length (rdL l 0)
  intro t
  induction t with
  | zero =>
    intro c hc
    obtain rfl : c = W := by omega
    exact Ev.step (fun k => spec_Normals.l1.eq_2 _ _ _ _ k) (evPos (by omega) (evNeg (by omega) (Ev.now _)))
  | succ t ih =>
    intro c hc
    refine Ev.step (fun k => spec_Normals.l1.eq_2 _ _ _ _ k) (evPos (by omega) (evPos (by omega) ?_))
    refine sums_spec h (by omega) _ _ (by rw [tab_length]; omega) ?_
    rw [← tab_succ]
    exact ih (c + 1) (by omega)

/-- Both answer alike. -/
theorem normals_both (l : List (List Int)) (hf : Fit l) : ∃ r : List Int × Bool, Ev (fun k => spec_Normals.f k l) r ∧ Ev (fun k => impl_Normals.f k l) r ∧ r.1.length ≤ 500 := by
  have hn := hf.n
  by_cases c : 1 ≤ l.length ∧ l.length ≤ 100
  rotate_left
  · refine ⟨([], false), ?_, ?_, by decide⟩
    · simp only [spec_Normals.f]
      refine Ev.bind (Ev.now _) ?_
      by_cases c1 : l.length < 1
      · exact evPos (by omega) (Ev.step (fun k => spec_Normals.j0.eq_2 _ _ _ k) (evPos rfl (Ev.now _)))
      · refine evNeg (by omega) ?_
        rw [decide_eq_true (by omega : (l.length : Int) > 100)]
        exact Ev.step (fun k => spec_Normals.j0.eq_2 _ _ _ k) (evPos rfl (Ev.now _))
    · simp only [impl_Normals.f, in_s]
      have e : inS (l.length : Int) 1 100 = false := by
        cases hh : inS (l.length : Int) 1 100 with
        | false => rfl
        | true => rw [inS_iff] at hh; exact absurd ⟨by omega, by omega⟩ c
      rw [e]
      exact Ev.bind (Ev.now _) (evNeg (by decide) (Ev.now _))
  obtain ⟨c1, c2⟩ := c
  have r0 : rd_L1 l 0 = l.getD 0 [] := rdL l 0
  have scan : ∀ t j, j + t = l.length → (∀ i, i < j → rok (l.getD i []) = true ∧ (l.getD i []).length = (l.getD 0 []).length) → ∃ r : List Int × Bool, Ev (fun k => spec_Normals.l0 k l [] (j : Int)) r ∧ Ev (fun k => impl_Normals.l0 k l l (l.length : Int) (j : Int)) r ∧ r.1.length ≤ 500 := by
    intro t
    induction t with
    | zero =>
      intro j hj hi
      obtain rfl : j = l.length := by omega
      have w : ∀ i, i < l.length → okS (l.getD i []) = true ∧ (l.getD i []).length = (l.getD 0 []).length ∧ (l.getD i []).length ≤ 500 := fun i h => by
        obtain ⟨a1, a2⟩ := hi i h
        unfold rok at a1
        rw [Bool.and_eq_true, decide_eq_true_iff] at a1
        exact ⟨a1.2, a2, a1.1.2⟩
      have y : Yrs l (l.getD 0 []).length := ⟨c1, c2, rfl, (w 0 (by omega)).2.2, fun i h => ⟨(w i h).1, (w i h).2.1⟩⟩
      refine ⟨(tab (l.getD 0 []).length (col l), true), ?_, ?_, ?_⟩
      · refine Ev.step (fun k => spec_Normals.l0.eq_2 _ _ _ k) (evNeg (by omega) ?_)
        exact cols_spec y (l.getD 0 []).length 0 (by omega)
      · refine Ev.step (fun k => impl_Normals.l0.eq_2 _ _ _ _ k) (evNeg (by omega) (evPos (by omega) ?_))
        rw [r0]
        exact cols_impl y (l.getD 0 []).length 0 (by omega)
      · show (tab _ _).length ≤ 500
        rw [tab_length]
        exact y.wm
    | succ t ih =>
      intro j hj hi
      have hs := specOk_ev (l.getD j []) (hf.at (by omega))
      have hp := implOk_ev (l.getD j []) (hf.at (by omega))
      cases ok : rok (l.getD j []) with
      | false =>
        rw [ok] at hs hp
        refine ⟨([], false), ?_, ?_, by decide⟩
        · refine Ev.step (fun k => spec_Normals.l0.eq_2 _ _ _ k) (evPos (by omega) (evPos (by omega) ?_))
          rw [rdL]
          exact Ev.bind hs (evNeg (by decide) (Ev.now _))
        · refine Ev.step (fun k => impl_Normals.l0.eq_2 _ _ _ _ k) (evPos (by omega) (evPos (by omega) (evPos (by omega) ?_)))
          rw [rdL]
          exact Ev.bind hp (evNeg (by decide) (Ev.now _))
      | true =>
        rw [ok] at hs hp
        by_cases c3 : (l.getD j []).length = (l.getD 0 []).length
        · obtain ⟨r, h1, h2, h3⟩ := ih (j + 1) (by omega) (fun i h => by
            by_cases e : i = j
            · rw [e]; exact ⟨ok, c3⟩
            · exact hi i (by omega))
          refine ⟨r, ?_, ?_, h3⟩
          · refine Ev.step (fun k => spec_Normals.l0.eq_2 _ _ _ k) (evPos (by omega) (evPos (by omega) ?_))
            rw [rdL, r0, up1 (by omega)]
            exact Ev.bind hs (evPos rfl (evPos (by omega) (evPos (by omega) h1)))
          · refine Ev.step (fun k => impl_Normals.l0.eq_2 _ _ _ _ k) (evPos (by omega) (evPos (by omega) (evPos (by omega) ?_)))
            rw [rdL, r0, up1 (by omega)]
            exact Ev.bind hp (evPos rfl (evPos (by omega) (evPos (by omega) h2)))
        · refine ⟨([], false), ?_, ?_, by decide⟩
          · refine Ev.step (fun k => spec_Normals.l0.eq_2 _ _ _ k) (evPos (by omega) (evPos (by omega) ?_))
            rw [rdL, r0]
            exact Ev.bind hs (evPos rfl (evPos (by omega) (evNeg (by omega) (Ev.now _))))
          · refine Ev.step (fun k => impl_Normals.l0.eq_2 _ _ _ _ k) (evPos (by omega) (evPos (by omega) (evPos (by omega) ?_)))
            rw [rdL, r0]
            exact Ev.bind hp (evPos rfl (evPos (by omega) (evNeg (by omega) (Ev.now _))))
  obtain ⟨r, h1, h2, h3⟩ := scan l.length 0 (by omega) (fun i h => absurd h (Nat.not_lt_zero _))
  refine ⟨r, ?_, ?_, h3⟩
  · simp only [spec_Normals.f]
    refine Ev.bind (Ev.now _) (evNeg (by omega) ?_)
    rw [decide_eq_false (by omega : ¬ (l.length : Int) > 100)]
    exact Ev.step (fun k => spec_Normals.j0.eq_2 _ _ _ k) (evNeg (by decide) h1)
  · simp only [impl_Normals.f, in_s]
    rw [(inS_iff (l.length : Int) 1 100).2 ⟨by omega, by omega⟩]
    exact Ev.bind (Ev.now _) (evPos rfl h2)

theorem FnExactNormals : laws_FnExactNormals.Pure := by
  intro l h1 h2
  refine Ev.rounds ?_
  simp only [laws_FnExactNormals.f]
  obtain ⟨t, hz, hfit⟩ := szSS_ev l h1 h2
  refine Ev.bind hz ?_
  by_cases ct : t < 0
  · exact evPos ct (Ev.now _)
  refine evNeg ct ?_
  have hf : Fit l := ⟨(hfit ct).1, (hfit ct).2⟩
  obtain ⟨⟨r, b⟩, hs, hi, hr⟩ := normals_both l hf
  have hr : r.length ≤ 500 := hr
  obtain ⟨⟨m, s⟩, hm, hm0⟩ := markSS_ev l hf
  have hm0 : ¬ m < 0 := hm0
  have bb : (b != b) = false := by cases b <;> rfl
  have e64 := eqInt64S_ev r (by omega)
  have held := heldInt64S_ev r.length 1 (by omega) (by omega)
  have mk := markInt64S_ev r 1 (by omega) (by omega)
  refine Ev.bind (toSS_ev l hf) (Ev.bind hs (Ev.bind (toSS_ev l hf) (Ev.bind hi (Ev.bind e64 (evPos rfl ?_)))))
  show Ev (fun k => laws_FnExactNormals.j0 k l r b l r b (b != b)) true
  rw [bb]
  refine Ev.step (fun k => laws_FnExactNormals.j0.eq_2 _ _ _ _ _ _ _ k) (evNeg (by decide) ?_)
  refine Ev.bind (toSS_ev l hf) (Ev.bind (eqSS_ev l hf) (evPos rfl (Ev.bind hm (evNeg hm0 (Ev.bind e64 (evPos rfl ?_))))))
  rw [bb]
  refine Ev.step (fun k => laws_FnExactNormals.j1.eq_2 _ _ _ _ _ k) (evNeg (by decide) ?_)
  refine Ev.bind mk ?_
  show Ev (fun k => (laws_heldInt64S.f k (marks 1 r.length) 1).bind fun t192 => (if t192 < 0 then (some false) else (if t192 = ((1 + r.length : Nat) : Int) then ((laws_toInt64SS.f k l).bind fun t193 => ((impl_Normals.f k t193).bind fun bt196 => ((laws_eqInt64S.f k bt196.1 r).bind fun t200 => (if t200 = true then (laws_FnExactNormals.j2 k (marks 1 r.length) ((1 + r.length : Nat) : Int) (bt196.2 != b)) else (laws_FnExactNormals.j2 k (marks 1 r.length) ((1 + r.length : Nat) : Int) true))))) else (some false)))) true
  refine Ev.bind held (evNeg (by omega) (evPos rfl ?_))
  refine Ev.bind (toSS_ev l hf) (Ev.bind hi (Ev.bind e64 (evPos rfl ?_)))
  show Ev (fun k => laws_FnExactNormals.j2 k (marks 1 r.length) ((1 + r.length : Nat) : Int) (b != b)) true
  rw [bb]
  refine Ev.step (fun k => laws_FnExactNormals.j2.eq_2 _ _ _ k) (evNeg (by decide) ?_)
  exact Ev.bind held (evNeg (by omega) (evPos rfl (Ev.now _)))
end Go.Proofs.Yteobnbichpadjab.Pure
