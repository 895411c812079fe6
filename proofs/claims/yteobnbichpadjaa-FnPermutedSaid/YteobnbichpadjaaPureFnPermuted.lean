/- The plain statement of the law FnPermuted: both count the same ways, for all drawn lists; no condition. -/
import Derived.Test.YteobnbichpadjaaInAll
import Derived.Test.YteobnbichpadjaaDrawS
import Derived.Test.YteobnbichpadjaaQx1
import Derived.Test.YteobnbichpadjaaQx10
import Derived.Test.YteobnbichpadjaaQx11
import Derived.Test.YteobnbichpadjaaQx12
import Derived.Test.YteobnbichpadjaaQx15
import Derived.Test.YteobnbichpadjaaQx17
import Derived.Test.YteobnbichpadjaaQx18
import Derived.Test.YteobnbichpadjaaQx6
import Derived.Test.YteobnbichpadjaaQx7
set_option linter.unusedVariables false
set_option linter.unusedSimpArgs false
namespace Go.Proofs.Yteobnbichpadjaa.Pure
open Go.RowKit Go.Proofs.Yteobnbichpadjaa.Q Go.Proofs.Yteobnbichpadjaa.Gen Go.Proofs.Yteobnbichpadjaa.Draw Go.Proofs.YteobnbichpadjaaW.PrintWords Go.Proofs.YteobnbichpadjaaW.PrintMore

/-! how many ways there are, and how many with a sum of at least t -/
def P : List Int → Nat → Int → Nat
  | _, 0, t => if t ≤ 0 then 1 else 0
  | [], _ + 1, _ => 0
  | x :: xs, r + 1, t => P xs r (t - x) + P xs (r + 1) t
def Cn : Nat → Nat → Nat
  | _, 0 => 1
  | 0, _ + 1 => 0
  | n + 1, r + 1 => Cn n r + Cn n (r + 1)
def sm : List Int → Int
  | [] => 0
  | x :: xs => x + sm xs
theorem P_zero (xs : List Int) (t : Int) : P xs 0 t = if t ≤ 0 then 1 else 0 := by cases xs <;> rfl
theorem Cn_zero (n : Nat) : Cn n 0 = 1 := by cases n <;> rfl
theorem P_le : ∀ (xs : List Int) (r : Nat) (t : Int), P xs r t ≤ Cn xs.length r := by
  intro xs
  induction xs with
  | nil =>
    intro r t
    cases r with
    | zero => rw [P_zero, Cn_zero]; split <;> omega
    | succ r => exact Nat.le_refl 0
  | cons x xs ih =>
    intro r t
    cases r with
    | zero => rw [P_zero, Cn_zero]; split <;> omega
    | succ r => exact Nat.add_le_add (ih r _) (ih (r + 1) t)
theorem Cn_few : ∀ (n r : Nat), n < r → Cn n r = 0 := by
  intro n
  induction n with
  | zero =>
    intro r h
    cases r with
    | zero => omega
    | succ r => rfl
  | succ n ih =>
    intro r h
    cases r with
    | zero => omega
    | succ r =>
      show Cn n r + Cn n (r + 1) = 0
      rw [ih r (by omega), ih (r + 1) (by omega)]
theorem P_few (xs : List Int) (r : Nat) (t : Int) (h : xs.length < r) : P xs r t = 0 := by
  have := P_le xs r t
  rw [Cn_few _ _ h] at this
  omega
theorem Cn_pow : ∀ (n r : Nat), Cn n r ≤ 2 ^ n := by
  intro n
  induction n with
  | zero =>
    intro r
    cases r with
    | zero => exact Nat.le_refl 1
    | succ r => exact Nat.zero_le _
  | succ n ih =>
    intro r
    cases r with
    | zero => rw [Cn_zero]; exact Nat.one_le_two_pow
    | succ r =>
      have a := ih r
      have b := ih (r + 1)
      rw [Nat.pow_succ]
      show Cn n r + Cn n (r + 1) ≤ _
      omega
theorem Cn_pos : ∀ (n r : Nat), r ≤ n → 1 ≤ Cn n r := by
  intro n
  induction n with
  | zero =>
    intro r h
    obtain rfl : r = 0 := by omega
    exact Nat.le_refl 1
  | succ n ih =>
    intro r h
    cases r with
    | zero => rw [Cn_zero]; exact Nat.le_refl 1
    | succ r =>
      have := ih r (by omega)
      show 1 ≤ Cn n r + Cn n (r + 1)
      omega
/-- The way that is has the sum. -/
theorem P_own (b : List Int) : ∀ a : List Int, 1 ≤ P (a ++ b) a.length (sm a) := by
  intro a
  induction a with
  | nil =>
    show 1 ≤ P b 0 0
    rw [P_zero]
    decide
  | cons x a ih =>
    show 1 ≤ P (a ++ b) a.length (x + sm a - x) + P (a ++ b) (a.length + 1) (x + sm a)
    rw [show x + sm a - x = sm a by omega]
    omega
/-- With all signs turned, the two counts have each way at least once. -/
theorem P_turn : ∀ (xs : List Int) (r : Nat) (t : Int), Cn xs.length r ≤ P xs r t + P (xs.map (fun x => -x)) r (-t) := by
  intro xs
  induction xs with
  | nil =>
    intro r t
    cases r with
    | zero =>
      rw [P_zero, P_zero, Cn_zero]
      by_cases c : t ≤ 0
      · rw [if_pos c]; omega
      · rw [if_neg c, if_pos (by omega)]; omega
    | succ r => exact Nat.zero_le _
  | cons x xs ih =>
    intro r t
    cases r with
    | zero =>
      rw [P_zero, P_zero, Cn_zero]
      by_cases c : t ≤ 0
      · rw [if_pos c]; omega
      · rw [if_neg c, if_pos (by omega)]; omega
    | succ r =>
      have a := ih r (t - x)
      have b := ih (r + 1) t
      show Cn xs.length r + Cn xs.length (r + 1) ≤ (P xs r (t - x) + P xs (r + 1) t) + (P (xs.map (fun x => -x)) r (-t - -x) + P (xs.map (fun x => -x)) (r + 1) (-t))
      rw [show -t - -x = -(t - x) by omega]
      omega
theorem sm_neg : ∀ l : List Int, sm (l.map (fun x => -x)) = -(sm l) := by
  intro l
  induction l with
  | nil => rfl
  | cons x l ih =>
    show -x + sm (l.map (fun x => -x)) = -(x + sm l)
    rw [ih]
    omega

/-! numbers within a million -/
def okM (l : List Int) : Bool := l.all fun x => inS x (-1000000) 1000000
theorem okM_get {l : List Int} (h : okM l = true) (j : Nat) (hj : j < l.length) : -1000000 ≤ l.getD j 0 ∧ l.getD j 0 ≤ 1000000 := by
  have h' := List.all_eq_true.1 h (l.getD j 0) (by rw [List.getD_eq_getElem?_getD, List.getElem?_eq_getElem hj]; exact List.getElem_mem hj)
  exact (inS_iff _ _ _).1 h'
theorem okM_cons {x : Int} {l : List Int} (h : okM (x :: l) = true) : (-1000000 ≤ x ∧ x ≤ 1000000) ∧ okM l = true := by
  unfold okM at h ⊢
  rw [List.all_cons, Bool.and_eq_true] at h
  exact ⟨(inS_iff _ _ _).1 h.1, h.2⟩
theorem drop_cons (l : List Int) (j : Nat) (h : j < l.length) : l.drop j = l.getD j 0 :: l.drop (j + 1) := by
  rw [List.drop_eq_getElem_cons h, List.getD_eq_getElem?_getD, List.getElem?_eq_getElem h]
  rfl
theorem sm_bound : ∀ l : List Int, okM l = true → -1000000 * (l.length : Int) ≤ sm l ∧ sm l ≤ 1000000 * (l.length : Int) := by
  intro l
  induction l with
  | nil => intro _; exact ⟨by show _ ≤ (0 : Int); simp, by show (0 : Int) ≤ _; simp⟩
  | cons x l ih =>
    intro h
    obtain ⟨h1, h2⟩ := okM_cons h
    have := ih h2
    rw [List.length_cons]
    show _ ≤ x + sm l ∧ x + sm l ≤ _
    omega
theorem fold_sm : ∀ (l : List Int) (acc : Int), okM l = true → l.length ≤ 1000 → -1000000000 ≤ acc → acc ≤ 1000000000 → l.foldl (fun a x => wrap64 (a + x)) acc = acc + sm l := by
  have main : ∀ (l : List Int) (acc : Int), okM l = true → -1000000000 - 1000000 * (1000 - (l.length : Int)) ≤ acc → acc ≤ 1000000000 + 1000000 * (1000 - (l.length : Int)) → l.length ≤ 1000 → l.foldl (fun a x => wrap64 (a + x)) acc = acc + sm l := by
    intro l
    induction l with
    | nil => intro acc _ _ _ _; show acc = acc + 0; omega
    | cons x l ih =>
      intro acc h h1 h2 h3
      obtain ⟨g1, g2⟩ := okM_cons h
      rw [List.length_cons] at h1 h2 h3
      rw [List.foldl_cons, w64 (x := acc + x) (by omega) (by omega), ih _ g2 (by omega) (by omega) (by omega)]
      show acc + x + sm l = acc + (x + sm l)
      omega
  intro l acc h hl h1 h2
  exact main l acc h (by omega) (by omega) hl

/-! the program's search -/
theorem l_ev (xs : List Int) (want : Int) (hx : okM xs = true) (hl : xs.length ≤ 16) (hw : -100000000 ≤ want ∧ want ≤ 100000000) :
    ∀ (d i left : Nat) (sum : Int) (n w : Nat), i + d = xs.length → 1 ≤ left → left ≤ 16 → -1000000 * (i : Int) ≤ sum → sum ≤ 1000000 * (i : Int) → n + Cn d left ≤ 1000000 → w + Cn d left ≤ 1000000 →
      Ev (fun k => impl_Permuted.l k xs want (i : Int) (left : Int) sum (n : Int) (w : Int)) (((n + P (xs.drop i) left (want - sum) : Nat) : Int), ((w + Cn d left : Nat) : Int)) := by
  intro d
  induction d with
  | zero =>
    intro i left sum n w hi h1 h2 s0 s1 b0 b1
    have e : Cn 0 left = 0 := Cn_few 0 left (by omega)
    rw [P_few _ _ _ (by rw [List.length_drop]; omega), e]
    refine Ev.step (fun k => impl_Permuted.l.eq_2 _ _ _ _ _ _ _ k) (evNeg ?_ (Ev.now _))
    rw [w64 (by omega) (by omega)]
    omega
  | succ d ih =>
    intro i left sum n w hi h1 h2 s0 s1 b0 b1
    by_cases c : i + left ≤ xs.length
    rotate_left
    · have e : Cn (d + 1) left = 0 := Cn_few _ left (by omega)
      rw [P_few _ _ _ (by rw [List.length_drop]; omega), e]
      refine Ev.step (fun k => impl_Permuted.l.eq_2 _ _ _ _ _ _ _ k) (evNeg ?_ (Ev.now _))
      rw [w64 (by omega) (by omega)]
      omega
    obtain ⟨r, rfl⟩ : ∃ r, left = r + 1 := ⟨left - 1, by omega⟩
    have hx1 := okM_get hx i (by omega)
    have ec : Cn (d + 1) (r + 1) = Cn d r + Cn d (r + 1) := rfl
    have ep : P (xs.drop i) (r + 1) (want - sum) = P (xs.drop (i + 1)) r (want - (sum + xs.getD i 0)) + P (xs.drop (i + 1)) (r + 1) (want - sum) := by
      rw [drop_cons xs i (by omega)]
      show P _ r (want - sum - xs.getD i 0) + _ = _
      rw [show want - sum - xs.getD i 0 = want - (sum + xs.getD i 0) by omega]
    have hP := P_le (xs.drop (i + 1)) r (want - (sum + xs.getD i 0))
    rw [List.length_drop, show xs.length - (i + 1) = d by omega] at hP
    rw [ec] at b0 b1
    refine Ev.step (fun k => impl_Permuted.l.eq_2 _ _ _ _ _ _ _ k) (evPos ?_ (evPos (by omega) (evPos (by omega) ?_)))
    · rw [w64 (by omega) (by omega)]
      omega
    rw [up1 (by omega), rd_nat, w64 (x := sum + xs.getD i 0) (by omega) (by omega), w64 (x := ((r + 1 : Nat) : Int) - 1) (by omega) (by omega), show ((r + 1 : Nat) : Int) - 1 = (r : Int) by omega]
    have next := ih (i + 1) (r + 1) sum (n + P (xs.drop (i + 1)) r (want - (sum + xs.getD i 0))) (w + Cn d r) (by omega) h1 h2 (by omega) (by omega) (by omega) (by omega)
    have e1 : ((n + P (xs.drop (i + 1)) r (want - (sum + xs.getD i 0)) + P (xs.drop (i + 1)) (r + 1) (want - sum) : Nat) : Int) = ((n + P (xs.drop i) (r + 1) (want - sum) : Nat) : Int) := by rw [ep]; congr 1; omega
    have e2 : ((w + Cn d r + Cn d (r + 1) : Nat) : Int) = ((w + Cn (d + 1) (r + 1) : Nat) : Int) := by rw [ec]; congr 1; omega
    rw [e1, e2] at next
    refine Ev.bind (a := (((n + P (xs.drop (i + 1)) r (want - (sum + xs.getD i 0)) : Nat) : Int), ((w + Cn d r : Nat) : Int))) ?_ next
    by_cases hr : r = 0
    · subst hr
      refine evPos rfl ?_
      have : impl_Permuted.fin want (sum + xs.getD i 0) (n : Int) (w : Int) = (((n + P (xs.drop (i + 1)) 0 (want - (sum + xs.getD i 0)) : Nat) : Int), ((w + Cn d 0 : Nat) : Int)) := by
        unfold impl_Permuted.fin
        rw [P_zero, Cn_zero]
        rw [Cn_zero] at b0 b1
        by_cases c2 : sum + xs.getD i 0 ≥ want
        · rw [if_pos c2, if_pos (by omega), w64 (x := (n : Int) + 1) (by omega) (by omega), w64 (x := (w : Int) + 1) (by omega) (by omega)]
          rfl
        · rw [if_neg c2, if_neg (by omega), w64 (x := (w : Int) + 1) (by omega) (by omega)]
          rfl
      rw [this]
      exact Ev.now _
    · refine evNeg (by omega) ?_
      exact ih (i + 1) r (sum + xs.getD i 0) n w (by omega) (by omega) (by omega) (by omega) (by omega) (by omega) (by omega)

/-! the reference's count -/
theorem ways_ev (xs : List Int) (hx : okM xs = true) (hl : xs.length ≤ 16) :
    ∀ (d i r : Nat) (t : Int), i + d = xs.length → r ≤ 16 → -100000000 - 1000000 * (i : Int) ≤ t → t ≤ 100000000 + 1000000 * (i : Int) →
      Ev (fun k => spec_l18Ways.f k xs (i : Int) (r : Int) t) (((P (xs.drop i) r t : Nat) : Int), ((Cn d r : Nat) : Int)) := by
  intro d
  induction d with
  | zero =>
    intro i r t hi hr t0 t1
    refine Ev.step (fun k => spec_l18Ways.f.eq_2 _ _ _ _ k) ?_
    by_cases c : r = 0
    · subst c
      rw [P_zero, Cn_zero]
      refine evPos rfl ?_
      by_cases c2 : t ≤ 0
      · rw [if_pos c2, if_pos c2]; exact Ev.now _
      · rw [if_neg c2, if_neg c2]; exact Ev.now _
    · rw [P_few _ _ _ (by rw [List.length_drop]; omega), Cn_few 0 r (by omega)]
      refine evNeg (by omega) (evPos ?_ (Ev.now _))
      rw [w64 (by omega) (by omega)]
      omega
  | succ d ih =>
    intro i r t hi hr t0 t1
    refine Ev.step (fun k => spec_l18Ways.f.eq_2 _ _ _ _ k) ?_
    by_cases c : r = 0
    · subst c
      rw [P_zero, Cn_zero]
      refine evPos rfl ?_
      by_cases c2 : t ≤ 0
      · rw [if_pos c2, if_pos c2]; exact Ev.now _
      · rw [if_neg c2, if_neg c2]; exact Ev.now _
    refine evNeg (by omega) ?_
    by_cases c2 : d + 1 < r
    · rw [P_few _ _ _ (by rw [List.length_drop]; omega), Cn_few _ r c2]
      refine evPos ?_ (Ev.now _)
      rw [w64 (by omega) (by omega)]
      omega
    obtain ⟨q, rfl⟩ : ∃ q, r = q + 1 := ⟨r - 1, by omega⟩
    have hx1 := okM_get hx i (by omega)
    refine evNeg (by rw [w64 (by omega) (by omega)]; omega) (evPos (by omega) (evPos (by omega) ?_))
    rw [up1 (by omega), rd_nat, w64 (x := ((q + 1 : Nat) : Int) - 1) (by omega) (by omega), show ((q + 1 : Nat) : Int) - 1 = (q : Int) by omega, w64 (x := t - xs.getD i 0) (by omega) (by omega)]
    refine Ev.bind (ih (i + 1) q (t - xs.getD i 0) (by omega) (by omega) (by omega) (by omega)) (Ev.bind (ih (i + 1) (q + 1) t (by omega) hr (by omega) (by omega)) ?_)
    have a1 := P_le (xs.drop (i + 1)) q (t - xs.getD i 0)
    have a2 := P_le (xs.drop (i + 1)) (q + 1) t
    rw [List.length_drop, show xs.length - (i + 1) = d by omega] at a1 a2
    have a3 := Cn_pow d q
    have a4 := Cn_pow d (q + 1)
    have a5 : 2 ^ d ≤ 2 ^ 16 := Nat.pow_le_pow_right (by omega) (by omega)
    rw [show (2 : Nat) ^ 16 = 65536 by decide] at a5
    have e1 : P (xs.drop i) (q + 1) t = P (xs.drop (i + 1)) q (t - xs.getD i 0) + P (xs.drop (i + 1)) (q + 1) t := by rw [drop_cons xs i (by omega)]; rfl
    have e2 : Cn (d + 1) (q + 1) = Cn d q + Cn d (q + 1) := rfl
    rw [e1, e2]
    have w1 : wrap64 (((P (xs.drop (i + 1)) q (t - xs.getD i 0) : Nat) : Int) + ((P (xs.drop (i + 1)) (q + 1) t : Nat) : Int)) = ((P (xs.drop (i + 1)) q (t - xs.getD i 0) + P (xs.drop (i + 1)) (q + 1) t : Nat) : Int) := by rw [w64 (by omega) (by omega)]; omega
    have w2 : wrap64 (((Cn d q : Nat) : Int) + ((Cn d (q + 1) : Nat) : Int)) = ((Cn d q + Cn d (q + 1) : Nat) : Int) := by rw [w64 (by omega) (by omega)]; omega
    show Ev (fun _ => some (wrap64 (((P (xs.drop (i + 1)) q (t - xs.getD i 0) : Nat) : Int) + ((P (xs.drop (i + 1)) (q + 1) t : Nat) : Int)), wrap64 (((Cn d q : Nat) : Int) + ((Cn d (q + 1) : Nat) : Int)))) _
    rw [w1, w2]
    exact Ev.now _

/-! both -/
def good (l : List Int) : Bool := decide (1 ≤ l.length ∧ l.length ≤ 8) && okM l
theorem good_i (l : List Int) (h : l.length ≤ 1048576) : Ev (fun k => impl_Permuted_1.f k l) (good l) := by
  unfold good
  simp only [impl_Permuted_1.f, in_s]
  by_cases c : 1 ≤ l.length ∧ l.length ≤ 8
  · rw [(inS_iff (l.length : Int) 1 8).2 ⟨by omega, by omega⟩, decide_eq_true c, Bool.true_and]
    have := all_impl l (l.length : Int) (-1000000) 1000000 (by omega)
    rw [decide_eq_true rfl, Bool.true_and] at this
    exact Ev.bind (Ev.now _) (evPos rfl (Ev.bind this (Ev.now _)))
  · have e : inS (l.length : Int) 1 8 = false := by
      cases hh : inS (l.length : Int) 1 8 with
      | false => rfl
      | true => rw [inS_iff] at hh; exact absurd ⟨by omega, by omega⟩ c
    rw [e, decide_eq_false c, Bool.false_and]
    exact Ev.bind (Ev.now _) (evNeg (by decide) (Ev.now _))
theorem okM_append {a b : List Int} (ha : okM a = true) (hb : okM b = true) : okM (a ++ b) = true := by
  unfold okM at *
  rw [List.all_append, ha, hb]
  rfl
def R (a b : List Int) : Int × Int := if good a && good b then (((P (a ++ b) a.length (sm a) : Nat) : Int), ((Cn (a.length + b.length) a.length : Nat) : Int)) else (0, 0)
theorem good_of {l : List Int} (h : good l = true) : (1 ≤ l.length ∧ l.length ≤ 8) ∧ okM l = true := by
  unfold good at h
  rw [Bool.and_eq_true, decide_eq_true_iff] at h
  exact h
theorem perm_i (a b : List Int) (ha : a.length ≤ 1048576) (hb : b.length ≤ 1048576) : Ev (fun k => impl_Permuted.f k a b) (R a b) := by
  unfold R
  simp only [impl_Permuted.f]
  have ga := good_i a ha
  have gb := good_i b hb
  cases ca : good a with
  | false =>
    rw [ca] at ga
    exact Ev.bind ga (evNeg (by decide) (Ev.now _))
  | true =>
    rw [ca] at ga
    refine Ev.bind ga (evPos rfl ?_)
    cases cb : good b with
    | false =>
      rw [cb] at gb
      exact Ev.bind gb (evNeg (by decide) (Ev.now _))
    | true =>
      rw [cb] at gb
      refine Ev.bind gb (evPos rfl (evPos (by omega) ?_))
      obtain ⟨⟨a1, a2⟩, a3⟩ := good_of ca
      obtain ⟨⟨b1, b2⟩, b3⟩ := good_of cb
      have hW : impl_Permuted.W a a.length = sm a := by
        unfold impl_Permuted.W
        rw [List.take_of_length_le (Nat.le_refl _), fold_sm a 0 a3 (by omega) (by omega) (by omega)]
        omega
      have sb := sm_bound a a3
      have hp := Cn_pow (a.length + b.length) a.length
      have hp2 : 2 ^ (a.length + b.length) ≤ 2 ^ 16 := Nat.pow_le_pow_right (by omega) (by omega)
      rw [show (2 : Nat) ^ 16 = 65536 by decide] at hp2
      have := l_ev (a ++ b) (sm a) (okM_append a3 b3) (by rw [List.length_append]; omega) ⟨by omega, by omega⟩ (a.length + b.length) 0 a.length 0 0 0 (by rw [List.length_append]; omega) a1 (by omega) (by omega) (by omega) (by omega) (by omega)
      rw [Int.sub_zero, Nat.zero_add, Nat.zero_add, List.drop_zero] at this
      rw [hW]
      unfold impl_Permuted.c
      exact evNeg (by omega) this
theorem ok_s (l : List Int) (h : l.length ≤ 60) (h1 : 1 ≤ l.length) : Ev (fun k => spec_l18Ok.f k l) (okM l) := by
  simp only [spec_l18Ok.f]
  refine evPos (by omega) (evPos (by omega) ?_)
  have := all_spec l (l.length : Int) (-1000000) 1000000 (by omega)
  rw [decide_eq_true rfl, Bool.true_and] at this
  exact Ev.bind this (Ev.now _)
theorem perm_s (a b : List Int) (ha : a.length ≤ 1048576) (hb : b.length ≤ 1048576) : Ev (fun k => spec_Permuted.f k a b) (R a b) := by
  have no : ∀ y, y = true → (good a && good b) = false → Ev (fun k => spec_Permuted.j0 k a b y) (R a b) := fun y hy hg => by
    unfold R
    rw [hg]
    exact Ev.step (fun k => spec_Permuted.j0.eq_2 _ _ _ k) (evPos hy (Ev.now _))
  simp only [spec_Permuted.f]
  have gx : ∀ l : List Int, ¬ (1 ≤ l.length ∧ l.length ≤ 8) → good l = false := fun l h => by unfold good; rw [decide_eq_false h, Bool.false_and]
  by_cases a1 : a.length < 1
  · exact evPos (by omega) (no _ rfl (by rw [gx a (by omega), Bool.false_and]))
  refine evNeg (by omega) ?_
  by_cases a2 : a.length > 8
  · exact evPos (by omega) (no _ rfl (by rw [gx a (by omega), Bool.false_and]))
  refine evNeg (by omega) ?_
  by_cases b1 : b.length < 1
  · exact evPos (by omega) (no _ rfl (by rw [gx b (by omega), Bool.and_false]))
  refine evNeg (by omega) ?_
  by_cases b2 : b.length > 8
  · exact evPos (by omega) (no _ rfl (by rw [gx b (by omega), Bool.and_false]))
  refine evNeg (by omega) ?_
  have oa := ok_s a (by omega) (by omega)
  have ob := ok_s b (by omega) (by omega)
  have g1 : good a = okM a := by unfold good; rw [decide_eq_true ⟨by omega, by omega⟩, Bool.true_and]
  have g2 : good b = okM b := by unfold good; rw [decide_eq_true ⟨by omega, by omega⟩, Bool.true_and]
  cases ca : okM a with
  | false =>
    rw [ca] at oa g1
    exact Ev.bind oa (evNeg (by decide) (no _ rfl (by rw [g1, Bool.false_and])))
  | true =>
    rw [ca] at oa g1
    refine Ev.bind oa (evPos rfl ?_)
    cases cb : okM b with
    | false =>
      rw [cb] at ob g2
      exact Ev.bind ob (no _ rfl (by rw [g2, Bool.and_false]))
    | true =>
      rw [cb] at ob g2
      refine Ev.bind ob (Ev.step (fun k => spec_Permuted.j0.eq_2 _ _ _ k) (evNeg (by decide) ?_))
      have hR : R a b = (((P (a ++ b) a.length (sm a) : Nat) : Int), ((Cn (a.length + b.length) a.length : Nat) : Int)) := by unfold R; rw [g1, g2]; rfl
      rw [hR]
      have sb := sm_bound a ca
      have main : ∀ t j acc, j + t = a.length → -1000000 * (j : Int) ≤ acc → acc ≤ 1000000 * (j : Int) → acc + sm (a.drop j) = sm a → Ev (fun k => spec_Permuted.l0 k a b acc (j : Int)) (((P (a ++ b) a.length (sm a) : Nat) : Int), ((Cn (a.length + b.length) a.length : Nat) : Int)) := by
        intro t
        induction t with
        | zero =>
          intro j acc hj h1 h2 h3
          obtain rfl : j = a.length := by omega
          rw [List.drop_of_length_le (Nat.le_refl _)] at h3
          have h4 : acc = sm a := by have : sm [] = 0 := rfl; omega
          rw [h4]
          refine Ev.step (fun k => spec_Permuted.l0.eq_2 _ _ _ _ k) (evNeg (by omega) (Ev.bind (Ev.now _) (evPos (by show 0 + a.length < _; omega) (Ev.bind (Ev.now _) (evPos (by show (([] : List Int) ++ a).length + b.length < _; rw [List.nil_append]; omega) ?_)))))
          have := ways_ev (a ++ b) (okM_append ca cb) (by rw [List.length_append]; omega) (a.length + b.length) 0 a.length (sm a) (by rw [List.length_append]; omega) (by omega) (by omega) (by omega)
          rw [List.drop_zero] at this
          exact Ev.bind this (Ev.now _)
        | succ t ih =>
          intro j acc hj h1 h2 h3
          have hx := okM_get ca j (by omega)
          rw [drop_cons a j (by omega)] at h3
          have h4 : acc + (a.getD j 0 + sm (a.drop (j + 1))) = sm a := h3
          refine Ev.step (fun k => spec_Permuted.l0.eq_2 _ _ _ _ k) (evPos (by omega) (evPos (by omega) ?_))
          rw [rd_nat, up1 (by omega), w64 (x := acc + a.getD j 0) (by omega) (by omega)]
          exact ih (j + 1) _ (by omega) (by omega) (by omega) (by omega)
      exact main a.length 0 0 (by omega) (by omega) (by omega) (by rw [List.drop_zero]; omega)

/-! the draws end -/
theorem members_ok {l : List Int} (h : Src l) {p : Int} (hp : At l p) : ∃ (m : List Int) (q : Int), Ev (fun k => spec_l1Rd_members.f k l p 5) (m, q) ∧ 1 ≤ m.length ∧ m.length ≤ 5 ∧ At l q := by
  simp only [spec_l1Rd_members.f]
  obtain ⟨v, q, e, v0, v1, hq⟩ := size_ok h hp 3 5 (by omega) (by omega) (by omega)
  obtain ⟨n, rfl⟩ := Int.eq_ofNat_of_zero_le (show 0 ≤ v by omega)
  have main : ∀ t j (m : List Int) (p : Int), j + t = n → m.length = j → At l p → ∃ (m2 : List Int) (q2 : Int), Ev (fun k => spec_l1Rd_members.l0 k (n : Int) m (j : Int) l p) (m2, q2) ∧ m2.length = n ∧ At l q2 := by
    intro t
    induction t with
    | zero =>
      intro j m p hj hm hp
      exact ⟨m, p, Ev.step (fun k => spec_l1Rd_members.l0.eq_2 _ _ _ _ _ k) (evNeg (by omega) (Ev.now _)), by omega, hp⟩
    | succ t ih =>
      intro j m p hj hm hp
      obtain ⟨u, q, e, _, _, hq⟩ := below_ok h hp 60 (by omega)
      obtain ⟨m2, q2, e2, h2, h3⟩ := ih (j + 1) (m ++ [wrap64 (u - 20)]) q (by omega) (by rw [List.length_append, hm]; rfl) hq
      refine ⟨m2, q2, Ev.step (fun k => spec_l1Rd_members.l0.eq_2 _ _ _ _ _ k) (evPos (by omega) ?_), h2, h3⟩
      rw [e, up1 (by omega)]
      exact Ev.bind (Ev.now _) (evPos (by omega) e2)
  obtain ⟨m, q2, e2, h2, h3⟩ := main n 0 [] q (by omega) rfl hq
  refine ⟨m, q2, ?_, by omega, by omega, h3⟩
  rw [e]
  exact Ev.bind (Ev.now _) e2
theorem draw_ok {l : List Int} (h : Src l) : ∃ a b : List Int, Ev (fun k => spec_DrawPermuted.f k l) (a, b) ∧ a.length ≤ 1048576 ∧ b.length ≤ 1048576 := by
  simp only [spec_DrawPermuted.f]
  obtain ⟨a, q, e, a1, a2, hq⟩ := members_ok h (p := 0) ⟨Int.le_refl _, by omega⟩
  obtain ⟨b, q2, e2, b1, b2, hq2⟩ := members_ok h hq
  obtain ⟨v, q3, e3, v0, v1, hq3⟩ := below_ok h hq2 14 (by omega)
  obtain ⟨u, q4, e4, u0, u1, hq4⟩ := below_ok h hq3 2 (by omega)
  have w8 : wrap64 (8 + u) = 8 + u := w64 (by omega) (by omega)
  by_cases c0 : v = 0
  · refine ⟨a.set (0 : Int).toNat (rd [1000000, 1000001] u), b, Ev.bind (Ev.now (l, 0)) (Ev.bind e (Ev.bind e2 ?_)), by rw [List.length_set]; omega, by omega⟩
    simp only [e3]
    refine Ev.bind (Ev.now _) (evPos c0 (Ev.bind (Ev.now _) ?_))
    simp only [e4]
    exact Ev.bind (Ev.now _) (evPos u0 (evPos (by show u < 2; omega) (evPos (by omega) (Ev.now _))))
  by_cases c1 : v = 1
  · refine ⟨a.take (0 : Int).toNat, b, Ev.bind (Ev.now (l, 0)) (Ev.bind e (Ev.bind e2 ?_)), by rw [List.length_take]; omega, by omega⟩
    simp only [e3]
    exact Ev.bind (Ev.now _) (evNeg c0 (evPos c1 (evPos (by omega) (Ev.now _))))
  by_cases c2 : v = 2
  · refine ⟨a, List.replicate (8 + u : Int).toNat 0, Ev.bind (Ev.now (l, 0)) (Ev.bind e (Ev.bind e2 ?_)), by omega, by rw [List.length_replicate]; omega⟩
    simp only [e3]
    refine Ev.bind (Ev.now _) (evNeg c0 (evNeg c1 (evPos c2 ?_)))
    simp only [e4]
    refine Ev.bind (Ev.now _) ?_
    rw [w8]
    exact evPos (by omega) (evPos (by omega) (Ev.now _))
  by_cases c3 : v = 3
  · refine ⟨List.replicate (8 + u : Int).toNat 0, b, Ev.bind (Ev.now (l, 0)) (Ev.bind e (Ev.bind e2 ?_)), by rw [List.length_replicate]; omega, by omega⟩
    simp only [e3]
    refine Ev.bind (Ev.now _) (evNeg c0 (evNeg c1 (evNeg c2 (evPos c3 ?_))))
    simp only [e4]
    refine Ev.bind (Ev.now _) ?_
    rw [w8]
    exact evPos (by omega) (evPos (by omega) (Ev.now _))
  · refine ⟨a, b, Ev.bind (Ev.now (l, 0)) (Ev.bind e (Ev.bind e2 ?_)), by omega, by omega⟩
    simp only [e3]
    exact Ev.bind (Ev.now _) (evNeg c0 (evNeg c1 (evNeg c2 (evNeg c3 (Ev.now _)))))

/-! the law -/
theorem neg_get (a : List Int) (j : Nat) (h : j < a.length) : (a.take j).map (fun x => -x) ++ [-(a.getD j 0)] = (a.take (j + 1)).map (fun x => -x) := by
  rw [List.take_succ_eq_append_getElem h, List.map_append, List.getD_eq_getElem?_getD, List.getElem?_eq_getElem h]
  rfl
theorem okM_neg {l : List Int} (h : okM l = true) : okM (l.map (fun x => -x)) = true := by
  unfold okM at *
  rw [List.all_map, List.all_eq_true]
  intro x hx
  have := (inS_iff _ _ _).1 (List.all_eq_true.1 h x hx)
  exact (inS_iff _ _ _).2 ⟨by show (-1000000 : Int) ≤ -x; omega, by show -x ≤ (1000000 : Int); omega⟩
def stp (lb i : Nat) : Bool := decide (Int.tdiv (((Cn (lb + i) i : Nat) : Int) * ((lb : Int) + ((i + 1 : Nat) : Int))) ((i + 1 : Nat) : Int) = ((Cn (lb + (i + 1)) (i + 1) : Nat) : Int))
theorem stp_all : ((List.range 9).all fun lb => (List.range 8).all fun i => stp lb i) = true := by decide +kernel
theorem stp_ok {lb i : Nat} (h1 : lb ≤ 8) (h2 : i < 8) : Int.tdiv (((Cn (lb + i) i : Nat) : Int) * ((lb : Int) + ((i + 1 : Nat) : Int))) ((i + 1 : Nat) : Int) = ((Cn (lb + (i + 1)) (i + 1) : Nat) : Int) := by
  have := List.all_eq_true.1 (List.all_eq_true.1 stp_all lb (List.mem_range.2 (by omega))) i (List.mem_range.2 h2)
  exact of_decide_eq_true this
theorem FnPermuted : laws_FnPermuted.Pure := by
  intro l hl _ hb
  refine Ev.rounds ?_
  simp only [laws_FnPermuted.f, laws_big.f]
  by_cases c : l.length ≤ 1048576
  rotate_left
  · exact Ev.bind (Ev.now _) (evPos (decide_eq_true (by omega)) (Ev.now _))
  have src : Src l := ⟨c, fun x hx => by
    have := hb x hx
    simp [Lit.wf] at this
    exact this⟩
  obtain ⟨a, b, hd, la, lb⟩ := draw_ok src
  refine Ev.bind (Ev.now _) (evNeg (by rw [decide_eq_true_eq]; omega) (Ev.bind hd (Ev.bind (perm_s a b la lb) (Ev.bind (perm_i a b la lb) (evPos rfl ?_)))))
  cases hg : (good a && good b) with
  | false =>
    have hR : R a b = (0, 0) := by unfold R; rw [hg]; rfl
    rw [hR]
    exact evPos rfl (Ev.now _)
  | true =>
    have hR : R a b = (((P (a ++ b) a.length (sm a) : Nat) : Int), ((Cn (a.length + b.length) a.length : Nat) : Int)) := by unfold R; rw [hg]; rfl
    rw [Bool.and_eq_true] at hg
    obtain ⟨⟨a1, a2⟩, a3⟩ := good_of hg.1
    obtain ⟨⟨b1, b2⟩, b3⟩ := good_of hg.2
    have hpos := Cn_pos (a.length + b.length) a.length (by omega)
    have hp := Cn_pow (a.length + b.length) a.length
    have hp2 : 2 ^ (a.length + b.length) ≤ 2 ^ 16 := Nat.pow_le_pow_right (by omega) (by omega)
    rw [show (2 : Nat) ^ 16 = 65536 by decide] at hp2
    have own := P_own b a
    have most := P_le (a ++ b) a.length (sm a)
    rw [List.length_append] at most
    have turn := P_turn (a ++ b) a.length (sm a)
    rw [List.length_append, List.map_append] at turn
    obtain ⟨na, hna⟩ : ∃ na, na = a.map (fun x => -x) := ⟨_, rfl⟩
    obtain ⟨nb, hnb⟩ : ∃ nb, nb = b.map (fun x => -x) := ⟨_, rfl⟩
    have lna : na.length = a.length := by rw [hna, List.length_map]
    have lnb : nb.length = b.length := by rw [hnb, List.length_map]
    have gna : good na = true := by unfold good; rw [decide_eq_true (by omega), hna, okM_neg a3]; rfl
    have gnb : good nb = true := by unfold good; rw [decide_eq_true (by omega), hnb, okM_neg b3]; rfl
    have hR2 : R na nb = (((P (na ++ nb) na.length (sm na) : Nat) : Int), ((Cn (na.length + nb.length) na.length : Nat) : Int)) := by unfold R; rw [gna, gnb]; rfl
    have own2 := P_own nb na
    have most2 := P_le (na ++ nb) na.length (sm na)
    rw [List.length_append] at most2
    have es : sm na = -(sm a) := by rw [hna, sm_neg]
    rw [← hna, ← hnb, ← es, ← lna] at turn
    rw [lna, lnb] at hR2
    rw [lna] at own2 most2 turn
    rw [lnb] at most2
    rw [hR]
    generalize P (a ++ b) a.length (sm a) = n at own most turn ⊢
    generalize P (na ++ nb) a.length (sm na) = m at own2 most2 turn hR2
    obtain ⟨C, hC⟩ : ∃ C, Cn (a.length + b.length) a.length = C := ⟨_, rfl⟩
    rw [hC] at hpos hp most most2 turn hR2 ⊢
    have hm := perm_i na nb (by omega) (by omega)
    rw [hR2] at hm
    refine evNeg (by show ¬ ((C : Nat) : Int) = 0; omega) ?_
    show Ev (fun k => laws_FnPermuted.l0 k a b (n : Int) (C : Int) 1 1) true
    have l2 : ∀ t j, j + t = b.length → Ev (fun k => laws_FnPermuted.l2 k b (n : Int) (C : Int) (C : Int) na ((b.take j).map (fun x => -x)) (j : Int)) true := by
      intro t
      induction t with
      | zero =>
        intro j hj
        obtain rfl : j = b.length := by omega
        rw [List.take_of_length_le (Nat.le_refl _), ← hnb]
        refine Ev.step (fun k => laws_FnPermuted.l2.eq_2 _ _ _ _ _ _ _ k) (evNeg (by omega) (Ev.bind hm (evPos rfl (evPos rfl (evPos (by omega) (evPos (by omega) (evPos (by show ((m : Nat) : Int) ≥ 1; omega) ?_)))))))
        have : decide (wrap64 ((n : Int) + (m : Int)) ≥ (C : Int)) = true := decide_eq_true (by rw [w64 (by omega) (by omega)]; omega)
        show Ev (fun _ => some (decide (wrap64 ((n : Int) + (m : Int)) ≥ (C : Int)))) true
        rw [this]
        exact Ev.now _
      | succ t ih =>
        intro j hj
        have hx := okM_get b3 j (by omega)
        refine Ev.step (fun k => laws_FnPermuted.l2.eq_2 _ _ _ _ _ _ _ k) (evPos (by omega) (evPos (by omega) (evPos (by rw [List.length_map, List.length_take]; omega) ?_)))
        rw [rd_nat, up1 (by omega), w64 (x := -(b.getD j 0)) (by omega) (by omega), neg_get b j (by omega)]
        exact ih (j + 1) (by omega)
    have l1 : ∀ t j, j + t = a.length → Ev (fun k => laws_FnPermuted.l1 k a b (n : Int) (C : Int) (C : Int) ((a.take j).map (fun x => -x)) [] (j : Int)) true := by
      intro t
      induction t with
      | zero =>
        intro j hj
        obtain rfl : j = a.length := by omega
        rw [List.take_of_length_le (Nat.le_refl _), ← hna]
        exact Ev.step (fun k => laws_FnPermuted.l1.eq_2 _ _ _ _ _ _ _ _ k) (evNeg (by omega) (l2 b.length 0 (by omega)))
      | succ t ih =>
        intro j hj
        have hx := okM_get a3 j (by omega)
        refine Ev.step (fun k => laws_FnPermuted.l1.eq_2 _ _ _ _ _ _ _ _ k) (evPos (by omega) (evPos (by omega) (evPos (by rw [List.length_map, List.length_take]; omega) ?_)))
        rw [rd_nat, up1 (by omega), w64 (x := -(a.getD j 0)) (by omega) (by omega), neg_get a j (by omega)]
        exact ih (j + 1) (by omega)
    have l0 : ∀ t i, i + t = a.length → Ev (fun k => laws_FnPermuted.l0 k a b (n : Int) (C : Int) ((Cn (b.length + i) i : Nat) : Int) ((i + 1 : Nat) : Int)) true := by
      intro t
      induction t with
      | zero =>
        intro i hi
        obtain rfl : i = a.length := by omega
        rw [Nat.add_comm b.length a.length, hC]
        exact Ev.step (fun k => laws_FnPermuted.l0.eq_2 _ _ _ _ _ _ k) (evNeg (by omega) (l1 a.length 0 (by omega)))
      | succ t ih =>
        intro i hi
        have hc1 := Cn_pow (b.length + i) i
        have hc2 : 2 ^ (b.length + i) ≤ 2 ^ 16 := Nat.pow_le_pow_right (by omega) (by omega)
        rw [show (2 : Nat) ^ 16 = 65536 by decide] at hc2
        have hc3 := Cn_pow (b.length + (i + 1)) (i + 1)
        have hc4 : 2 ^ (b.length + (i + 1)) ≤ 2 ^ 16 := Nat.pow_le_pow_right (by omega) (by omega)
        rw [show (2 : Nat) ^ 16 = 65536 by decide] at hc4
        have hst := stp_ok (lb := b.length) (i := i) b2 (by omega)
        refine Ev.step (fun k => laws_FnPermuted.l0.eq_2 _ _ _ _ _ _ k) (evPos (by omega) (evNeg (by omega) ?_))
        have hmul : 0 ≤ ((Cn (b.length + i) i : Nat) : Int) * ((b.length : Int) + ((i + 1 : Nat) : Int)) ∧ ((Cn (b.length + i) i : Nat) : Int) * ((b.length : Int) + ((i + 1 : Nat) : Int)) ≤ 65536 * 17 := by
          refine ⟨Int.mul_nonneg (by omega) (by omega), ?_⟩
          exact Int.mul_le_mul (by omega) (by omega) (by omega) (by omega)
        rw [w64 (x := (b.length : Int) + ((i + 1 : Nat) : Int)) (by omega) (by omega), w64 (x := ((Cn (b.length + i) i : Nat) : Int) * ((b.length : Int) + ((i + 1 : Nat) : Int))) (by omega) (by omega), hst, w64 (x := ((Cn (b.length + (i + 1)) (i + 1) : Nat) : Int)) (by omega) (by omega), up1 (by omega)]
        exact ih (i + 1) (by omega)
    have := l0 a.length 0 (by omega)
    rw [Cn_zero] at this
    exact this
end Go.Proofs.Yteobnbichpadjaa.Pure
