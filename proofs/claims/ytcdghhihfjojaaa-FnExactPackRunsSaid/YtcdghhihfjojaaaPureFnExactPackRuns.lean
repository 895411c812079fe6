/- The plain statement of the law FnExactPackRuns: program and reference pack a list alike; no condition. -/
import Derived.Test.YtcdghhihfjojaaaPackL
import Derived.Test.YtcdghhihfjojaaaI64
import Derived.Test.YtcdghhihfjojaaaQx10
import Derived.Test.YtcdghhihfjojaaaQx11
import Derived.Test.YtcdghhihfjojaaaQx13
import Derived.Test.YtcdghhihfjojaaaQx14
import Derived.Test.YtcdghhihfjojaaaQx15
import Derived.Test.YtcdghhihfjojaaaQx3
import Derived.Test.YtcdghhihfjojaaaQx6
import Derived.Test.YtcdghhihfjojaaaQx7
import Derived.Test.YtcdghhihfjojaaaQx8
set_option linter.unusedVariables false
set_option linter.unusedSimpArgs false
namespace Go.Proofs.Ytcdghhihfjojaaa.Pure
open Go.RowKit Go.Proofs.Ytcdghhihfjojaaa.Q Go.Proofs.Ytcdghhihfjojaaa.Gen Go.Proofs.Ytcdghhihfjojaaa.PackL Go.Proofs.YtcdghhihfjojaaaW.PrintWords Go.Proofs.YtcdghhihfjojaaaW.PrintMore
/-! bytes -/
theorem eqByteS_ev (l : List Int) (h : l.length ≤ 1099511627776) : Ev (fun k => laws_eqByteS.f k l l) true := by
  simp only [laws_eqByteS.f]
  refine evPos (by trivial) ?_
  refine count (fun k i (_ : Unit) => laws_eqByteS.l0 k l l i) l.length (fun _ => ()) true ?_ ?_ 0 (by omega)
  · intro j hj
    refine ⟨0, fun k _ => ?_⟩
    simp only [laws_eqByteS.l0]
    rw [if_pos (by omega), if_pos (by omega), if_pos (by omega), if_pos trivial, up1 (by omega)]
  · refine Ev_succ (fun k => ?_)
    simp only [laws_eqByteS.l0]
    rw [if_neg (by omega)]
def marksB (a : Int) (n : Nat) : List Int := (marks a n).map (· % 256)
theorem marksB_length (a : Int) (n : Nat) : (marksB a n).length = n := by simp [marksB, marks_length]
theorem marksB_get (a : Int) (n i : Nat) (h : i < n) : (marksB a n).getD i 0 = (a + (i : Int)) % 256 := by
  simp [marksB, marks, List.getD_eq_getElem?_getD, h]
theorem markByteS_ev (l : List Int) (a : Nat) (h : l.length ≤ 1099511627776) (ha : a ≤ 1152921504606846976) : Ev (fun k => laws_markByteS.f k l (a : Int)) (((a + l.length : Nat) : Int), marksB a l.length) := by
  simp only [laws_markByteS.f]
  have := count (fun k i (s : List Int × Int) => laws_markByteS.l0 k s.1 s.2 i) l.length (fun j => (mixed (marksB a l.length) l j, ((a + j : Nat) : Int))) (((a + l.length : Nat) : Int), marksB a l.length) ?_ ?_ 0 (by omega)
  · simpa [mixed_zero] using this
  · intro j hj
    refine ⟨0, fun k _ => ?_⟩
    have hm := mixed_set (marksB a l.length) l 0 j (by rw [marksB_length]) (by rw [marksB_length]; exact hj)
    rw [marksB_get _ _ _ hj] at hm
    simp only [laws_markByteS.l0]
    rw [if_pos (by rw [mixed_length _ _ _ (by rw [marksB_length]), marksB_length]; omega), if_pos (by omega), up1 (by omega), up1 (by omega), Int.toNat_natCast, show ((a + j : Nat) : Int) = (a : Int) + (j : Int) by omega, hm]
    rfl
  · refine Ev_succ (fun k => ?_)
    simp only [laws_markByteS.l0]
    rw [if_neg (by rw [mixed_length _ _ _ (by rw [marksB_length]), marksB_length]; omega)]
    have := mixed_all (marksB a l.length) l (by rw [marksB_length])
    rw [marksB_length] at this
    rw [this]
theorem heldByteS_ev (n a : Nat) (h : n ≤ 1099511627776) (ha : a ≤ 1152921504606846976) : Ev (fun k => laws_heldByteS.f k (marksB a n) (a : Int)) ((a + n : Nat) : Int) := by
  simp only [laws_heldByteS.f]
  refine count (fun k i (s : Int) => laws_heldByteS.l0 k (marksB a n) s i) n (fun j => ((a + j : Nat) : Int)) ((a + n : Nat) : Int) ?_ ?_ 0 (by omega)
  · intro j hj
    refine ⟨0, fun k _ => ?_⟩
    simp only [laws_heldByteS.l0]
    rw [if_pos (by rw [marksB_length]; omega), if_pos (by omega), if_pos (by rw [rd_nat, marksB_get _ _ _ hj]; omega), up1 (by omega), up1 (by omega)]
    rfl
  · refine Ev_succ (fun k => ?_)
    simp only [laws_heldByteS.l0]
    rw [if_neg (by rw [marksB_length]; omega)]
/-! what is small -/
def inS (x : Int) : Bool := decide (-1099511627776 ≤ x) && decide (x ≤ 1099511627776)
def small (l : List Int) : Bool := decide (l.length ≤ 4096) && l.all inS
theorem l8Small_ev (l : List Int) (h : l.length ≤ 1048576) : Ev (fun k => spec_l8Small.f k l 40) (small l) := by
  unfold spec_l8Small.f small
  by_cases c : (l.length : Int) > 4096
  · rw [decide_eq_false (by omega)]
    exact evPos c (Ev.now _)
  rw [decide_eq_true (by omega), Bool.true_and]
  refine evNeg c ?_
  have hs : shl .i64 1 40 = 1099511627776 := by decide
  have := scan (fun k i => spec_l8Small.l0 k l 40 i) l.length (fun j => (l.drop j).all inS) ?_ ?_ 0 (by omega)
  · simpa using this
  · intro j hj
    simp only [all_drop l _ 0 j hj]
    by_cases hb : inS (l.getD j 0) = true
    · refine .inl ⟨by rw [hb, Bool.true_and], 0, fun k _ => ?_⟩
      simp only [inS, Bool.and_eq_true, decide_eq_true_eq] at hb
      simp only [spec_l8Small.l0]
      rw [hs, if_pos (by omega), if_pos (by omega), if_pos (by decide), rd_nat, show wrap64 (-1099511627776) = -1099511627776 from by unfold wrap64; omega, if_neg (by omega), if_neg (by omega), up1 (by omega)]
    · refine .inr (Ev_succ fun k => ?_)
      have hb' : inS (l.getD j 0) = false := by rwa [Bool.not_eq_true] at hb
      rw [hb', Bool.false_and]
      simp only [inS, Bool.and_eq_true, decide_eq_true_eq] at hb
      simp only [spec_l8Small.l0]
      rw [hs, if_pos (by omega), if_pos (by omega), if_pos (by decide), rd_nat, show wrap64 (-1099511627776) = -1099511627776 from by unfold wrap64; omega]
      by_cases d : l.getD j 0 < -1099511627776
      · rw [if_pos d]
      · rw [if_neg d, if_pos (by omega)]
  · refine Ev_succ fun k => ?_
    simp only [spec_l8Small.l0]
    rw [if_neg (by omega)]
    simp
theorem in_s (x : Int) : impl_in.f x (wrap64 (-1099511627776)) 1099511627776 = some (inS x) := by
  rw [show wrap64 (-1099511627776) = -1099511627776 from by unfold wrap64; omega]
  unfold impl_in.f inS
  by_cases c : x ≥ -1099511627776
  · rw [if_pos c, decide_eq_true (show -1099511627776 ≤ x from c), Bool.true_and]
  · rw [if_neg c, decide_eq_false (show ¬ -1099511627776 ≤ x from c), Bool.false_and]
theorem within_ev (l : List Int) (h : l.length ≤ 1048576) : Ev (fun k => impl_within.f k l 1099511627776) (small l) := by
  unfold impl_within.f small
  by_cases c : (l.length : Int) > 4096
  · rw [decide_eq_false (by omega)]
    exact evPos c (Ev.now _)
  rw [decide_eq_true (by omega), Bool.true_and]
  refine evNeg c ?_
  have := scan (fun k i => impl_within.l0 k 1099511627776 l (l.length : Int) i) l.length (fun j => (l.drop j).all inS) ?_ ?_ 0 (by omega)
  · simpa using this
  · intro j hj
    simp only [all_drop l _ 0 j hj]
    by_cases hb : inS (l.getD j 0) = true
    · refine .inl ⟨by rw [hb, Bool.true_and], 0, fun k _ => ?_⟩
      simp only [impl_within.l0]
      rw [if_pos (by omega), if_pos (by omega), if_pos (by omega), rd_nat, in_s, hb, Option.bind_some, if_pos rfl, up1 (by omega)]
    · rw [Bool.not_eq_true] at hb
      refine .inr (Ev_succ fun k => ?_)
      simp only [impl_within.l0]
      rw [if_pos (by omega), if_pos (by omega), if_pos (by omega), rd_nat, in_s, hb]
      rfl
  · refine Ev_succ fun k => ?_
    simp only [impl_within.l0]
    rw [if_neg (by omega)]
    simp
/-! differences, the least and the greatest of them -/
def diffs (p : Int) : List Int → List Int
  | [] => []
  | n :: r => (n - p) :: diffs n r
def lastOf (p : Int) : List Int → Int
  | [] => p
  | n :: r => lastOf n r
def R40 (x : Int) : Prop := -1099511627776 ≤ x ∧ x ≤ 1099511627776
theorem diffs_len (l : List Int) : ∀ p, (diffs p l).length = l.length := by
  induction l with
  | nil => intro p; rfl
  | cons n r ih => intro p; simp [diffs, ih]
theorem diffs_range (l : List Int) : ∀ p, R40 p → (∀ x ∈ l, R40 x) → ∀ d ∈ diffs p l, -2199023255552 ≤ d ∧ d ≤ 2199023255552 := by
  induction l with
  | nil => intro p _ _ d hd; cases hd
  | cons n r ih =>
    intro p hp hl d hd
    have hn := hl n (by simp)
    rcases List.mem_cons.1 hd with rfl | hd
    · unfold R40 at hp hn
      omega
    · exact ih n hn (fun x hx => hl x (by simp [hx])) d hd
theorem lastOf_range (l : List Int) : ∀ p, R40 p → (∀ x ∈ l, R40 x) → R40 (lastOf p l) := by
  induction l with
  | nil => intro p hp _; exact hp
  | cons n r ih => intro p hp hl; exact ih n (hl n (by simp)) (fun x hx => hl x (by simp [hx]))
theorem mn_le (x y : Int) : mn x y ≤ x ∧ mn x y ≤ y ∧ (mn x y = x ∨ mn x y = y) := by unfold mn; split <;> omega
theorem mx_le (x y : Int) : x ≤ mx x y ∧ y ≤ mx x y ∧ (mx x y = x ∨ mx x y = y) := by unfold mx; split <;> omega
theorem fold_mn (D : List Int) : ∀ lo, D.foldl mn lo ≤ lo ∧ (∀ d ∈ D, D.foldl mn lo ≤ d) ∧ (D.foldl mn lo = lo ∨ D.foldl mn lo ∈ D) := by
  induction D with
  | nil => intro lo; exact ⟨Int.le_refl _, fun d hd => (by cases hd), .inl rfl⟩
  | cons d r ih =>
    intro lo
    obtain ⟨h1, h2, h3⟩ := ih (mn lo d)
    have hm := mn_le lo d
    rw [List.foldl_cons]
    refine ⟨by omega, fun x hx => ?_, ?_⟩
    · rcases List.mem_cons.1 hx with rfl | hx
      · omega
      · exact h2 x hx
    · rcases h3 with h3 | h3
      · rcases hm.2.2 with e | e
        · exact .inl (h3.trans e)
        · exact .inr (by rw [h3, e]; simp)
      · exact .inr (by simp [h3])
theorem fold_mx (D : List Int) : ∀ hi, hi ≤ D.foldl mx hi ∧ (∀ d ∈ D, d ≤ D.foldl mx hi) ∧ (D.foldl mx hi = hi ∨ D.foldl mx hi ∈ D) := by
  induction D with
  | nil => intro lo; exact ⟨Int.le_refl _, fun d hd => (by cases hd), .inl rfl⟩
  | cons d r ih =>
    intro hi
    obtain ⟨h1, h2, h3⟩ := ih (mx hi d)
    have hm := mx_le hi d
    rw [List.foldl_cons]
    refine ⟨by omega, fun x hx => ?_, ?_⟩
    · rcases List.mem_cons.1 hx with rfl | hx
      · omega
      · exact h2 x hx
    · rcases h3 with h3 | h3
      · rcases hm.2.2 with e | e
        · exact .inl (h3.trans e)
        · exact .inr (by rw [h3, e]; simp)
      · exact .inr (by simp [h3])
theorem drop_cons (L : List Int) (i : Nat) (h : i < L.length) : L.drop i = L.getD i 0 :: L.drop (i + 1) := by
  rw [List.drop_eq_getElem_cons h]
  simp [List.getD_eq_getElem?_getD, h]
theorem getD_mem (L : List Int) (i : Nat) (h : i < L.length) : L.getD i 0 ∈ L := by
  simp only [List.getD_eq_getElem?_getD, List.getElem?_eq_getElem h, Option.getD_some]
  exact List.getElem_mem h
/-- The width that a number asks for. -/
theorem width (z : Int) (h0 : 0 ≤ z) (h1 : z ≤ 4398046511104) : ∃ W : Nat, W ≤ 43 ∧ ¬ z / 2 ^ W > 0 ∧ ∀ w, w < W → z / 2 ^ w > 0 := by
  have key : ∀ n : Nat, (∃ W, W ≤ n ∧ ¬ z / 2 ^ W > 0 ∧ ∀ w, w < W → z / 2 ^ w > 0) ∨ ∀ w, w ≤ n → z / 2 ^ w > 0 := by
    intro n
    induction n with
    | zero =>
      by_cases c : z / 2 ^ 0 > 0
      · exact .inr fun w hw => by obtain rfl : w = 0 := by omega
                                  exact c
      · exact .inl ⟨0, Nat.le_refl _, c, fun w hw => by omega⟩
    | succ n ih =>
      rcases ih with ⟨W, a, b, d⟩ | ih
      · exact .inl ⟨W, by omega, b, d⟩
      · by_cases c : z / 2 ^ (n + 1) > 0
        · exact .inr fun w hw => by
            by_cases e : w = n + 1
            · rw [e]; exact c
            · exact ih w (by omega)
        · exact .inl ⟨n + 1, Nat.le_refl _, c, fun w hw => ih w (by omega)⟩
  rcases key 43 with h | h
  · exact h
  · have := h 43 (Nat.le_refl _)
    simp only [Int.reducePow] at this
    omega
def flat (W : Nat) (lo : Int) (D : List Int) : List Int := D.flatMap fun d => bitsOf (d - lo) W
theorem flat_len (W : Nat) (lo : Int) (D : List Int) : (flat W lo D).length = D.length * W := by
  induction D with
  | nil => simp [flat]
  | cons d r ih =>
    have : flat W lo (d :: r) = bitsOf (d - lo) W ++ flat W lo r := rfl
    rw [this, List.length_append, ih, bitsOf_len, List.length_cons, Nat.add_mul]
    omega
theorem flat_01 (W : Nat) (lo : Int) (D : List Int) : ∀ b ∈ flat W lo D, b = 0 ∨ b = 1 := by
  intro b hb
  obtain ⟨d, _, hd⟩ := List.mem_flatMap.1 hb
  exact bitsOf_01 _ _ b hd
theorem u64w {x : Int} (h0 : 0 ≤ x) (h1 : x ≤ 4398046511104) : IntKind.u64.wrap x = x := by simp [IntKind.wrap, IntKind.bits, IntKind.signed]; omega
theorem w64s {x : Int} (h0 : -9000000000000000000 ≤ x) (h1 : x ≤ 9000000000000000000) : wrap64 x = x := by unfold wrap64; omega
/-! the program's loops -/
section
variable (l : List Int) (R : List Int × Bool)
theorem impl1 (x4 : List Int) (x6 : Int) (c : List Int) (hc : c.length ≤ 16) (hr : ∀ x ∈ c, R40 x) : ∀ t i x5 x7, i + t = c.length → R40 x5 → x7.length + t ≤ 100 → 1 ≤ x7.length + t →
    Ev (fun k => impl_PackRuns.l2 k l x4 (lastOf x5 (c.drop i)) x6 (x7 ++ diffs x5 (c.drop i)) (rd (x7 ++ diffs x5 (c.drop i)) 0) (rd (x7 ++ diffs x5 (c.drop i)) 0) (x7 ++ diffs x5 (c.drop i)) ((x7 ++ diffs x5 (c.drop i)).length : Int) 0) R →
    Ev (fun k => impl_PackRuns.l1 k l x4 x5 x6 x7 c (c.length : Int) (i : Int)) R := by
  intro t
  induction t with
  | zero =>
    intro i x5 x7 h h5 h7 h1 hR
    rw [List.drop_of_length_le (by omega)] at hR
    simp only [diffs, lastOf, List.append_nil] at hR
    exact Ev.step (fun k => impl_PackRuns.l1.eq_2 _ _ _ _ _ _ _ _ k) (evNeg (by omega) (evPos (by omega) hR))
  | succ t ih =>
    intro i x5 x7 h h5 h7 h1 hR
    have hn := hr _ (getD_mem c i (by omega))
    have hw : wrap64 (c.getD i 0 - x5) = c.getD i 0 - x5 := by unfold R40 at h5 hn; exact w64s (by omega) (by omega)
    refine Ev.step (fun k => impl_PackRuns.l1.eq_2 _ _ _ _ _ _ _ _ k) (evPos (by omega) (evPos (by omega) (evPos (by omega) (evPos (by omega) ?_))))
    rw [rd_nat, hw, up1 (by omega)]
    replace hw := Aside0.mk hw
    refine ih (i + 1) _ _ (by omega) hn (by simp; omega) (by rw [List.length_append, List.length_singleton]; omega) ?_
    rw [drop_cons c i (by omega)] at hR
    simpa [diffs, lastOf] using hR
theorem impl2 (x4 : List Int) (x5 x6 : Int) (D : List Int) (hD : D.length ≤ 16) : ∀ t i lo hi, i + t = D.length →
    Ev (fun k => impl_PackRuns.l3 k l x4 x5 x6 D ((D.drop i).foldl mn lo) ((D.drop i).foldl mx hi) 0) R →
    Ev (fun k => impl_PackRuns.l2 k l x4 x5 x6 D lo hi D (D.length : Int) (i : Int)) R := by
  intro t
  induction t with
  | zero =>
    intro i lo hi h hR
    rw [List.drop_of_length_le (by omega)] at hR
    exact Ev.step (fun k => impl_PackRuns.l2.eq_2 _ _ _ _ _ _ _ _ _ _ k) (evNeg (by omega) hR)
  | succ t ih =>
    intro i lo hi h hR
    refine Ev.step (fun k => impl_PackRuns.l2.eq_2 _ _ _ _ _ _ _ _ _ _ k) (evPos (by omega) (evPos (by omega) (evPos (by omega) ?_)))
    rw [rd_nat, up1 (by omega)]
    rw [drop_cons D i (by omega)] at hR
    exact ih (i + 1) _ _ (by omega) hR
theorem impl3 (x4 : List Int) (x5 x6 : Int) (D : List Int) (lo hi : Int) (W : Nat) (hW : W ≤ 43) (hz : wrap64 (hi - lo) = hi - lo) (h1 : ¬ (hi - lo) / 2 ^ W > 0) (h2 : ∀ w, w < W → (hi - lo) / 2 ^ w > 0)
    (hR : Ev (fun k => impl_PackRuns.l4 k l x4 x5 x6 D lo (W : Int) 5) R) : ∀ t w, w + t = W → Ev (fun k => impl_PackRuns.l3 k l x4 x5 x6 D lo hi (w : Int)) R := by
  intro t
  induction t with
  | zero =>
    intro w h
    obtain rfl : w = W := by omega
    refine Ev.step (fun k => impl_PackRuns.l3.eq_2 _ _ _ _ _ _ _ _ k) (evPos (by omega) ?_)
    rw [hz, shr_div .i64 _ w (by show w ≤ 64; omega)]
    exact evNeg h1 hR
  | succ t ih =>
    intro w h
    refine Ev.step (fun k => impl_PackRuns.l3.eq_2 _ _ _ _ _ _ _ _ k) (evPos (by omega) ?_)
    rw [hz, shr_div .i64 _ w (by show w ≤ 64; omega), up1 (by omega)]
    exact evPos (h2 w (by omega)) (ih (w + 1) (by omega))
set_option maxHeartbeats 4000000 in
theorem impl4 (x4 : List Int) (x5 x6 : Int) (D : List Int) (lo : Int) (W : Nat) (hW : W ≤ 43) (h4 : x4.length ≤ 1000000) (v : Int) (hv : wrap64 (lo + 4398046511104) = v) (h0 : 0 ≤ v)
    (hR : Ev (fun k => impl_PackRuns.l5 k l (x4 ++ pk (bitsOf v 48) ++ [(W : Int) % 256]) x5 x6 lo (W : Int) [] D (D.length : Int) 0) R) : Ev (fun k => impl_PackRuns.l4 k l x4 x5 x6 D lo (W : Int) 5) R := by
  rw [six] at hR
  have s : ∀ n : Nat, n ≤ 64 → shr .i64 v (n : Int) = v / 2 ^ n := fun n h => shr_div .i64 v n h
  refine Ev.step (fun k => impl_PackRuns.l4.eq_2 _ _ _ _ _ _ _ _ k) (evPos (by decide) ?_)
  rw [hv, show wrap64 (8 * 5) = ((40 : Nat) : Int) from by unfold wrap64; omega, s 40 (by decide), show wrap64 (5 - 1) = 4 from by unfold wrap64; omega]
  refine evPos (by decide) (evPos (by omega) ?_)
  refine Ev.step (fun k => impl_PackRuns.l4.eq_2 _ _ _ _ _ _ _ _ k) (evPos (by decide) ?_)
  rw [hv, show wrap64 (8 * 4) = ((32 : Nat) : Int) from by unfold wrap64; omega, s 32 (by decide), show wrap64 (4 - 1) = 3 from by unfold wrap64; omega]
  refine evPos (by decide) (evPos (by simp; omega) ?_)
  refine Ev.step (fun k => impl_PackRuns.l4.eq_2 _ _ _ _ _ _ _ _ k) (evPos (by decide) ?_)
  rw [hv, show wrap64 (8 * 3) = ((24 : Nat) : Int) from by unfold wrap64; omega, s 24 (by decide), show wrap64 (3 - 1) = 2 from by unfold wrap64; omega]
  refine evPos (by decide) (evPos (by simp; omega) ?_)
  refine Ev.step (fun k => impl_PackRuns.l4.eq_2 _ _ _ _ _ _ _ _ k) (evPos (by decide) ?_)
  rw [hv, show wrap64 (8 * 2) = ((16 : Nat) : Int) from by unfold wrap64; omega, s 16 (by decide), show wrap64 (2 - 1) = 1 from by unfold wrap64; omega]
  refine evPos (by decide) (evPos (by simp; omega) ?_)
  refine Ev.step (fun k => impl_PackRuns.l4.eq_2 _ _ _ _ _ _ _ _ k) (evPos (by decide) ?_)
  rw [hv, show wrap64 (8 * 1) = ((8 : Nat) : Int) from by unfold wrap64; omega, s 8 (by decide), show wrap64 (1 - 1) = 0 from by unfold wrap64; omega]
  refine evPos (by decide) (evPos (by simp; omega) ?_)
  refine Ev.step (fun k => impl_PackRuns.l4.eq_2 _ _ _ _ _ _ _ _ k) (evPos (by decide) ?_)
  rw [hv, show wrap64 (8 * 0) = ((0 : Nat) : Int) from by unfold wrap64; omega, s 0 (by decide), show wrap64 (0 - 1) = -1 from by unfold wrap64; omega]
  refine evPos (by decide) (evPos (by simp; omega) ?_)
  refine Ev.step (fun k => impl_PackRuns.l4.eq_2 _ _ _ _ _ _ _ _ k) (evNeg (by decide) (evPos (by simp; omega) ?_))
  simpa using hR
theorem impl5 (x4 : List Int) (x5 : Int) (at_ : Nat) (hat : at_ ≤ 100000) (D : List Int) (lo : Int) (W : Nat) (hW : W ≤ 43) (hD : D.length ≤ 16) (h4 : x4.length ≤ 1000000) (hd : ∀ d ∈ D, 0 ≤ d - lo ∧ d - lo ≤ 4398046511104) :
    ∀ t i bits, i + t = D.length → bits.length + 43 * t ≤ 1000 →
    Ev (fun k => impl_PackRuns.l0 k l (x4 ++ pk (bits ++ flat W lo (D.drop i))) x5 ((at_ + 16 : Nat) : Int)) R →
    Ev (fun k => impl_PackRuns.l5 k l x4 x5 (at_ : Int) lo (W : Int) bits D (D.length : Int) (i : Int)) R := by
  intro t
  induction t with
  | zero =>
    intro i bits h hb hR
    rw [List.drop_of_length_le (by omega)] at hR
    simp only [flat, List.flatMap_nil, List.append_nil] at hR
    have hp := pk_len bits
    refine Ev.step (fun k => impl_PackRuns.l5.eq_2 _ _ _ _ _ _ _ _ _ _ k) (evNeg (by omega) (Ev.bind (show Ev (fun k => impl_pack.f k bits) (pk bits) from Ev.now _) (evPos (by omega) ?_)))
    rw [show wrap64 ((at_ : Int) + 16) = ((at_ + 16 : Nat) : Int) by unfold wrap64; omega]
    exact hR
  | succ t ih =>
    intro i bits h hb hR
    have d := hd _ (getD_mem D i (by omega))
    have hw : wrap64 (D.getD i 0 - lo) = D.getD i 0 - lo := w64s (by omega) (by omega)
    have hu : IntKind.u64.wrap (D.getD i 0 - lo) = D.getD i 0 - lo := u64w d.1 d.2
    refine Ev.step (fun k => impl_PackRuns.l5.eq_2 _ _ _ _ _ _ _ _ _ _ k) (evPos (by omega) (evPos (by omega) (evPos (by omega) ?_)))
    rw [rd_nat, hw, hu, up1 (by omega)]
    replace hw := Aside0.mk hw
    replace hu := Aside0.mk hu
    refine Ev.bind (put_f _ d.1 (by omega) W bits (by omega) (by omega)) (ih (i + 1) _ (by omega) (by rw [List.length_append, bitsOf_len]; omega) ?_)
    rw [drop_cons D i (by omega)] at hR
    simpa [flat] using hR
/-! the reference's loops -/
theorem spec3 (x4 : List Int) (x5 : Int) (at_ : Nat) (hat : at_ ≤ 100000) (D : List Int) (lo : Int) (W : Nat) (hW : W ≤ 43) (hD : D.length ≤ 16) (h4 : x4.length ≤ 1000000) (hd : ∀ d ∈ D, 0 ≤ d - lo ∧ d - lo ≤ 4398046511104) :
    ∀ t i bits, i + t = D.length → bits.length + 43 * t ≤ 1000 → (∀ b ∈ bits, b = 0 ∨ b = 1) →
    Ev (fun k => spec_PackRuns.l0 k l (x4 ++ pk (bits ++ flat W lo (D.drop i))) x5 ((at_ + 16 : Nat) : Int)) R →
    Ev (fun k => spec_PackRuns.l3 k l x4 x5 (at_ : Int) D lo (W : Int) bits (i : Int)) R := by
  intro t
  induction t with
  | zero =>
    intro i bits h hb h01 hR
    rw [List.drop_of_length_le (by omega)] at hR
    simp only [flat, List.flatMap_nil, List.append_nil] at hR
    have hp := pk_len bits
    refine Ev.step (fun k => spec_PackRuns.l3.eq_2 _ _ _ _ _ _ _ _ _ k) (evNeg (by omega) (Ev.bind (l7Bytes_ev bits (by omega) h01) (evPos (by omega) ?_)))
    rw [show wrap64 ((at_ : Int) + 16) = ((at_ + 16 : Nat) : Int) by unfold wrap64; omega]
    exact hR
  | succ t ih =>
    intro i bits h hb h01 hR
    have d := hd _ (getD_mem D i (by omega))
    have hw : wrap64 (D.getD i 0 - lo) = D.getD i 0 - lo := w64s (by omega) (by omega)
    refine Ev.step (fun k => spec_PackRuns.l3.eq_2 _ _ _ _ _ _ _ _ _ k) (evPos (by omega) (evPos (by omega) ?_))
    rw [rd_nat, hw, up1 (by omega)]
    replace hw := Aside0.mk hw
    refine Ev.bind (l7Put_f _ d.1 (by omega) W bits (by omega) (by omega)) (ih (i + 1) _ (by omega) (by rw [List.length_append, bitsOf_len]; omega) (fun b hb => ?_) ?_)
    · rcases List.mem_append.1 hb with hb | hb
      · exact h01 b hb
      · exact bitsOf_01 _ _ b hb
    rw [drop_cons D i (by omega)] at hR
    simpa [flat] using hR
theorem spec2 (x4 : List Int) (x5 x6 : Int) (D : List Int) (lo hi : Int) (W : Nat) (hW : W ≤ 43) (h4 : x4.length ≤ 1000000) (hz : wrap64 (hi - lo) = hi - lo) (h1 : ¬ (hi - lo) / 2 ^ W > 0) (h2 : ∀ w, w < W → (hi - lo) / 2 ^ w > 0)
    (hR : Ev (fun k => spec_PackRuns.l3 k l (x4 ++ [(W : Int) % 256]) x5 x6 D lo (W : Int) [] 0) R) : ∀ t w, w + t = W → Ev (fun k => spec_PackRuns.l2 k l x4 x5 x6 D lo hi (w : Int)) R := by
  intro t
  induction t with
  | zero =>
    intro w h
    obtain rfl : w = W := by omega
    have hu : IntKind.u64.wrap (w : Int) = (w : Int) := by simp [IntKind.wrap, IntKind.bits, IntKind.signed]; omega
    refine Ev.step (fun k => spec_PackRuns.l2.eq_2 _ _ _ _ _ _ _ _ k) ?_
    rw [hu, hz, shr_div .i64 _ w (by show w ≤ 64; omega)]
    exact evPos (by omega) (evNeg h1 (evPos (by omega) hR))
  | succ t ih =>
    intro w h
    have hu : IntKind.u64.wrap (w : Int) = (w : Int) := by simp [IntKind.wrap, IntKind.bits, IntKind.signed]; omega
    refine Ev.step (fun k => spec_PackRuns.l2.eq_2 _ _ _ _ _ _ _ _ k) ?_
    rw [hu, hz, shr_div .i64 _ w (by show w ≤ 64; omega), up1 (by omega)]
    replace hu := Aside0.mk hu
    exact evPos (by omega) (evPos (h2 w (by omega)) (ih (w + 1) (by omega)))
/-- Behind the differences. -/
theorem specj (x4 : List Int) (x5 x6 : Int) (D : List Int) (lo hi x10 : Int) (h4 : x4.length ≤ 1000000) (v : Int) (hv : wrap64 (lo + 4398046511104) = v) (h0 : 0 ≤ v) (h1 : v < 2 ^ 62)
    (hR : Ev (fun k => spec_PackRuns.l2 k l (x4 ++ pk (bitsOf v 48)) x5 x6 D lo hi 0) R) : Ev (fun k => spec_PackRuns.j2 k l x4 x5 x6 D lo hi x10 false) R := by
  refine Ev.step (fun k => spec_PackRuns.j2.eq_2 _ _ _ _ _ _ _ _ _ k) (evNeg (by decide) ?_)
  rw [hv]
  have h := l7Put_f v h0 h1 48 [] (by decide) (by decide)
  rw [List.nil_append] at h
  have hp := pk_len (bitsOf v 48)
  rw [bitsOf_len] at hp
  exact Ev.bind h (Ev.bind (l7Bytes_ev _ (by rw [bitsOf_len]; decide) (bitsOf_01 _ _)) (evPos (by omega) hR))
set_option maxHeartbeats 4000000 in
theorem spec1 (hl : l.length ≤ 4096) (hs : ∀ x ∈ l, R40 x) (x4 : List Int) (at_ : Nat) (hat : at_ ≤ 5000) : ∀ t i x5 x7 lo hi, at_ + i + t = min (at_ + 16) l.length → R40 x5 → x7.length + t ≤ 100 → 1 ≤ i →
    (∀ D lo' hi', D = x7 ++ diffs x5 ((l.take (min (at_ + 16) l.length)).drop (at_ + i)) → lo' = (diffs x5 ((l.take (min (at_ + 16) l.length)).drop (at_ + i))).foldl mn lo → hi' = (diffs x5 ((l.take (min (at_ + 16) l.length)).drop (at_ + i))).foldl mx hi →
      ∀ x10, Ev (fun k => spec_PackRuns.j2 k l x4 (lastOf x5 ((l.take (min (at_ + 16) l.length)).drop (at_ + i))) (at_ : Int) D lo' hi' x10 false) R) →
    Ev (fun k => spec_PackRuns.l1 k l x4 x5 (at_ : Int) x7 lo hi ((at_ + i : Nat) : Int)) R := by
  have h16 : wrap64 ((at_ : Int) + 16) = ((at_ + 16 : Nat) : Int) := by unfold wrap64; omega
  replace h16 := Aside0.mk h16
  intro t
  induction t with
  | zero =>
    intro i x5 x7 lo hi h h5 h7 hi1 hR
    have hd : (l.take (min (at_ + 16) l.length)).drop (at_ + i) = [] := List.drop_of_length_le (by rw [List.length_take]; omega)
    rw [hd] at hR
    have := hR _ _ _ rfl rfl rfl ((at_ + i : Nat) : Int)
    simp only [diffs, lastOf, List.append_nil, List.foldl_nil] at this
    refine Ev.step (fun k => spec_PackRuns.l1.eq_2 _ _ _ _ _ _ _ _ k) ?_
    rw [h16.out]
    by_cases c : ((at_ + i : Nat) : Int) < ((at_ + 16 : Nat) : Int)
    · rw [show decide (((at_ + i : Nat) : Int) < (l.length : Int)) = false from decide_eq_false (by omega)]
      exact evPos c this
    · exact evNeg c this
  | succ t ih =>
    intro i x5 x7 lo hi h h5 h7 hi1 hR
    have hi : at_ + i < l.length := by omega
    have hn := hs _ (getD_mem l (at_ + i) hi)
    have hdr : (l.take (min (at_ + 16) l.length)).drop (at_ + i) = l.getD (at_ + i) 0 :: (l.take (min (at_ + 16) l.length)).drop (at_ + (i + 1)) := by
      rw [drop_cons _ (at_ + i) (by rw [List.length_take]; omega), Nat.add_assoc]
      congr 1
      simp only [List.getD_eq_getElem?_getD, List.getElem?_take]
      rw [if_pos (by omega)]
    have hw : wrap64 (l.getD (at_ + i) 0 - x5) = l.getD (at_ + i) 0 - x5 := by unfold R40 at h5 hn; exact w64s (by omega) (by omega)
    refine Ev.step (fun k => spec_PackRuns.l1.eq_2 _ _ _ _ _ _ _ _ k) ?_
    rw [h16.out, show decide (((at_ + i : Nat) : Int) < (l.length : Int)) = true from decide_eq_true (by omega)]
    refine evPos (by omega) (Ev.step (fun k => spec_PackRuns.j2.eq_2 _ _ _ _ _ _ _ _ _ k) (evPos rfl (evPos (by omega) (evPos (by omega) (evPos (by omega) ?_)))))
    rw [rd_nat, hw, up1 (by omega)]
    replace hw := Aside0.mk hw
    refine Ev.bind (Ev.now _) (evNeg (by omega) (ih (i + 1) _ _ _ _ (by omega) hn (by simp; omega) (by omega) ?_))
    intro D lo' hi' e1 e2 e3 x10
    have := hR D lo' hi' (by rw [e1, hdr]; simp [diffs]) (by rw [e2, hdr]; rfl) (by rw [e3, hdr]; rfl) x10
    rw [hdr] at this
    exact this
end
theorem mn_nat (a b : Nat) : mn (a : Int) (b : Int) = ((min a b : Nat) : Int) := by unfold mn; split <;> omega
set_option maxHeartbeats 4000000 in
/-- One run of at most sixteen numbers. -/
theorem run_both (l : List Int) (hl : l.length ≤ 4096) (hs : ∀ x ∈ l, R40 x) (x4 : List Int) (x5 : Int) (h5 : R40 x5) (at_ : Nat) (hat : at_ < l.length) (h4 : x4.length ≤ 900000) :
    ∃ y4 y5, R40 y5 ∧ y4.length ≤ x4.length + 100 ∧
      (∀ R : List Int × Bool, Ev (fun k => spec_PackRuns.l0 k l y4 y5 ((at_ + 16 : Nat) : Int)) R → Ev (fun k => spec_PackRuns.l0 k l x4 x5 (at_ : Int)) R) ∧
      (∀ R : List Int × Bool, Ev (fun k => impl_PackRuns.l0 k l y4 y5 ((at_ + 16 : Nat) : Int)) R → Ev (fun k => impl_PackRuns.l0 k l x4 x5 (at_ : Int)) R) := by
  have hcl : ((l.take (min (at_ + 16) l.length)).drop at_).length = min (at_ + 16) l.length - at_ := by rw [List.length_drop, List.length_take]; omega
  have hcr : ∀ x ∈ (l.take (min (at_ + 16) l.length)).drop at_, R40 x := fun x hx => hs x (List.mem_of_mem_take (List.mem_of_mem_drop hx))
  have hdr : (l.take (min (at_ + 16) l.length)).drop at_ = l.getD at_ 0 :: (l.take (min (at_ + 16) l.length)).drop (at_ + 1) := by
    rw [drop_cons _ at_ (by rw [List.length_take]; omega)]
    congr 1
    simp only [List.getD_eq_getElem?_getD, List.getElem?_take]
    rw [if_pos (by omega)]
  have hn := hs _ (getD_mem l at_ hat)
  have hdl := diffs_len ((l.take (min (at_ + 16) l.length)).drop at_) x5
  have hdrg := diffs_range _ x5 h5 hcr
  have hlast := lastOf_range _ x5 h5 hcr
  have hD1 : diffs x5 ((l.take (min (at_ + 16) l.length)).drop at_) = (l.getD at_ 0 - x5) :: diffs (l.getD at_ 0) ((l.take (min (at_ + 16) l.length)).drop (at_ + 1)) := by rw [hdr]; rfl
  have hL1 : lastOf x5 ((l.take (min (at_ + 16) l.length)).drop at_) = lastOf (l.getD at_ 0) ((l.take (min (at_ + 16) l.length)).drop (at_ + 1)) := by rw [hdr]; rfl
  generalize hD : diffs x5 ((l.take (min (at_ + 16) l.length)).drop at_) = D at *
  have hr0 : rd D 0 = l.getD at_ 0 - x5 := by rw [hD1]; rfl
  have hd0 := hdrg (l.getD at_ 0 - x5) (by rw [hD1]; simp)
  have f1 := fold_mn D (rd D 0)
  have f2 := fold_mx D (rd D 0)
  have hlo : -2199023255552 ≤ D.foldl mn (rd D 0) ∧ D.foldl mn (rd D 0) ≤ 2199023255552 := by
    rcases f1.2.2 with e | e
    · rw [e, hr0]; exact hd0
    · exact hdrg _ e
  have hhi : -2199023255552 ≤ D.foldl mx (rd D 0) ∧ D.foldl mx (rd D 0) ≤ 2199023255552 := by
    rcases f2.2.2 with e | e
    · rw [e, hr0]; exact hd0
    · exact hdrg _ e
  have hle : D.foldl mn (rd D 0) ≤ D.foldl mx (rd D 0) := by omega
  have hdd : ∀ d ∈ D, 0 ≤ d - D.foldl mn (rd D 0) ∧ d - D.foldl mn (rd D 0) ≤ 4398046511104 := fun d hd => by
    have a := f1.2.1 d hd
    have b := hdrg d hd
    omega
  obtain ⟨W, hW, hW1, hW2⟩ := width (D.foldl mx (rd D 0) - D.foldl mn (rd D 0)) (by omega) (by omega)
  have hz : Aside0 (wrap64 (D.foldl mx (rd D 0) - D.foldl mn (rd D 0)) = D.foldl mx (rd D 0) - D.foldl mn (rd D 0)) := ⟨w64s (by omega) (by omega)⟩
  have hv : Aside0 (wrap64 (D.foldl mn (rd D 0) + 4398046511104) = D.foldl mn (rd D 0) + 4398046511104) := ⟨w64s (by omega) (by omega)⟩
  have hfl := flat_len W (D.foldl mn (rd D 0)) D
  have hpl := pk_len (flat W (D.foldl mn (rd D 0)) D)
  have hp48 := pk_len (bitsOf (D.foldl mn (rd D 0) + 4398046511104) 48)
  rw [bitsOf_len] at hp48
  have hWD : D.length * W ≤ 16 * 43 := Nat.mul_le_mul (by omega) hW
  have h16 : Aside0 (wrap64 ((at_ : Int) + 16) = ((at_ + 16 : Nat) : Int)) := ⟨by unfold wrap64; omega⟩
  refine ⟨x4 ++ pk (bitsOf (D.foldl mn (rd D 0) + 4398046511104) 48) ++ [(W : Int) % 256] ++ pk (flat W (D.foldl mn (rd D 0)) D), lastOf x5 ((l.take (min (at_ + 16) l.length)).drop at_), hlast, ?_, fun R hR => ?_, fun R hR => ?_⟩
  · simp only [List.length_append, List.length_singleton]
    omega
  · have hw : Aside0 (wrap64 (l.getD at_ 0 - x5) = l.getD at_ 0 - x5) := ⟨by unfold R40 at h5 hn; exact w64s (by omega) (by omega)⟩
    have s3 := spec3 l R (x4 ++ pk (bitsOf (D.foldl mn (rd D 0) + 4398046511104) 48) ++ [(W : Int) % 256]) (lastOf x5 ((l.take (min (at_ + 16) l.length)).drop at_)) at_ (by omega) D (D.foldl mn (rd D 0)) W hW (by omega) (by simp only [List.length_append, List.length_singleton]; omega) hdd D.length 0 [] (by omega) (by simp; omega) (fun b hb => by cases hb) (by simpa using hR)
    have s2 := spec2 l R (x4 ++ pk (bitsOf (D.foldl mn (rd D 0) + 4398046511104) 48)) (lastOf x5 ((l.take (min (at_ + 16) l.length)).drop at_)) (at_ : Int) D (D.foldl mn (rd D 0)) (D.foldl mx (rd D 0)) W hW (by simp only [List.length_append]; omega) hz.out hW1 hW2 s3 W 0 (by omega)
    refine Ev.step (fun k => spec_PackRuns.l0.eq_2 _ _ _ _ k) (evPos (by omega) ?_)
    refine Ev.step (fun k => spec_PackRuns.l1.eq_2 _ _ _ _ _ _ _ _ k) ?_
    rw [h16.out, show decide ((at_ : Int) < (l.length : Int)) = true from decide_eq_true (by omega)]
    refine evPos (by omega) (Ev.step (fun k => spec_PackRuns.j2.eq_2 _ _ _ _ _ _ _ _ _ k) (evPos rfl (evPos (by omega) (evPos (by omega) (evPos (by simp) ?_)))))
    rw [rd_nat, hw.out, up1 (by omega)]
    refine Ev.bind (Ev.now _) (evPos rfl ?_)
    refine spec1 l R hl hs x4 at_ (by omega) (min (at_ + 16) l.length - at_ - 1) 1 (l.getD at_ 0) ([] ++ [l.getD at_ 0 - x5]) _ _ (by omega) hn (by simp; omega) (by decide) ?_
    intro D' lo' hi' e1 e2 e3 x10
    have e1' : D' = D := by rw [e1, hD1]; rfl
    have e2' : lo' = D.foldl mn (rd D 0) := by rw [e2, hr0, hD1]; rfl
    have e3' : hi' = D.foldl mx (rd D 0) := by rw [e3, hr0, hD1]; rfl
    rw [e1', e2', e3']
    rw [hL1] at s2
    exact specj l R x4 _ (at_ : Int) D _ _ x10 (by omega) _ hv.out (by omega) (by omega) s2
  · have s5 := impl5 l R (x4 ++ pk (bitsOf (D.foldl mn (rd D 0) + 4398046511104) 48) ++ [(W : Int) % 256]) (lastOf x5 ((l.take (min (at_ + 16) l.length)).drop at_)) at_ (by omega) D (D.foldl mn (rd D 0)) W hW (by omega) (by simp only [List.length_append, List.length_singleton]; omega) hdd D.length 0 [] (by omega) (by simp; omega) (by simpa using hR)
    have s4 := impl4 l R x4 (lastOf x5 ((l.take (min (at_ + 16) l.length)).drop at_)) (at_ : Int) D (D.foldl mn (rd D 0)) W hW (by omega) _ hv.out (by omega) s5
    have s3 := impl3 l R x4 (lastOf x5 ((l.take (min (at_ + 16) l.length)).drop at_)) (at_ : Int) D (D.foldl mn (rd D 0)) (D.foldl mx (rd D 0)) W hW hz.out hW1 hW2 s4 W 0 (by omega)
    have s2 := impl2 l R x4 (lastOf x5 ((l.take (min (at_ + 16) l.length)).drop at_)) (at_ : Int) D (by omega) D.length 0 (rd D 0) (rd D 0) (by omega) s3
    have s1 := impl1 l R x4 (at_ : Int) ((l.take (min (at_ + 16) l.length)).drop at_) (by omega) hcr ((l.take (min (at_ + 16) l.length)).drop at_).length 0 x5 [] (by omega) h5 (by simp; omega) (by simp; omega) (by rw [List.drop_zero, List.nil_append, hD]; exact s2)
    refine Ev.step (fun k => impl_PackRuns.l0.eq_2 _ _ _ _ k) (evPos (by omega) (evPos (by omega) ?_))
    rw [h16.out, mn_nat, Int.toNat_natCast, Int.toNat_natCast]
    exact evPos (by omega) (evPos (by omega) s1)
theorem all_both (l : List Int) (hl : l.length ≤ 4096) (hs : ∀ x ∈ l, R40 x) : ∀ n (x4 : List Int) x5 at_, l.length - at_ ≤ n → at_ ≤ 5000 → R40 x5 → x4.length + 100 * n ≤ 900000 → ∃ R : List Int × Bool, R.1.length ≤ 900000 ∧ Ev (fun k => spec_PackRuns.l0 k l x4 x5 ((at_ : Nat) : Int)) R ∧ Ev (fun k => impl_PackRuns.l0 k l x4 x5 (at_ : Int)) R := by
  intro n
  induction n with
  | zero =>
    intro x4 x5 at_ h ha h5 h4
    exact ⟨(x4, true), by dsimp only; omega, Ev.step (fun k => spec_PackRuns.l0.eq_2 _ _ _ _ k) (evNeg (by omega) (Ev.now _)), Ev.step (fun k => impl_PackRuns.l0.eq_2 _ _ _ _ k) (evNeg (by omega) (Ev.now _))⟩
  | succ n ih =>
    intro x4 x5 at_ h ha h5 h4
    by_cases c : at_ < l.length
    rotate_left
    · exact ⟨(x4, true), by dsimp only; omega, Ev.step (fun k => spec_PackRuns.l0.eq_2 _ _ _ _ k) (evNeg (by omega) (Ev.now _)), Ev.step (fun k => impl_PackRuns.l0.eq_2 _ _ _ _ k) (evNeg (by omega) (Ev.now _))⟩
    obtain ⟨y4, y5, g5, g4, hS, hI⟩ := run_both l hl hs x4 x5 h5 at_ c (by omega)
    obtain ⟨R, hr, h1, h2⟩ := ih y4 y5 (at_ + 16) (by omega) (by omega) g5 (by omega)
    exact ⟨R, hr, hS R h1, hI R h2⟩
theorem both (l : List Int) (hl : l.length ≤ 1048576) : ∃ R : List Int × Bool, R.1.length ≤ 900000 ∧ Ev (fun k => spec_PackRuns.f k l) R ∧ Ev (fun k => impl_PackRuns.f k l) R := by
  unfold spec_PackRuns.f impl_PackRuns.f
  by_cases c : small l = true
  rotate_left
  · have c' : small l = false := by rwa [Bool.not_eq_true] at c
    have h1 := l8Small_ev l hl
    have h2 := within_ev l hl
    rw [c'] at h1 h2
    exact ⟨([], false), by decide, Ev.bind h1 (evNeg (by decide) (Ev.now _)), Ev.bind h2 (evNeg (by decide) (Ev.now _))⟩
  have h1 := l8Small_ev l hl
  have h2 := within_ev l hl
  rw [c] at h1 h2
  simp only [small, Bool.and_eq_true, decide_eq_true_eq] at c
  have hs : ∀ x ∈ l, R40 x := fun x hx => by
    have := List.all_eq_true.1 c.2 x hx
    show -1099511627776 ≤ x ∧ x ≤ 1099511627776
    simpa only [inS, Bool.and_eq_true, decide_eq_true_eq] using this
  obtain ⟨R, hr, e1, e2⟩ := all_both l c.1 hs 4096 [((l.length : Int) / 256) % 256, ((l.length : Int)) % 256] 0 0 (by omega) (by decide) (by unfold R40; decide) (by simp)
  exact ⟨R, hr, Ev.bind h1 (evPos rfl e1), Ev.bind h2 (evPos rfl e2)⟩
set_option maxHeartbeats 4000000 in
theorem FnExactPackRuns : laws_FnExactPackRuns.Pure := by
  intro l _ _ _
  have fin : Ev (fun k => laws_FnExactPackRuns.f k l) true := by
    unfold laws_FnExactPackRuns.f
    by_cases c : (l.length : Int) > 1048576
    · exact evPos c (Ev.now _)
    have hl : l.length ≤ 1048576 := by omega
    obtain ⟨⟨B, b⟩, hr, e1, e2⟩ := both l hl
    have hB : B.length ≤ 900000 := hr
    have t := toInt64S_ev l hl
    have q := eqByteS_ev B (by omega)
    refine evNeg c (Ev.bind t (Ev.bind e1 (Ev.bind t (Ev.bind e2 (Ev.bind q (evPos rfl ?_))))))
    dsimp only
    have hbb : (b != b) = false := by cases b <;> rfl
    rw [hbb]
    have hm := markByteS_ev B 1 (by omega) (by omega)
    have hh := heldByteS_ev B.length 1 (by omega) (by omega)
    have j2 : Ev (fun k => laws_FnExactPackRuns.j2 k (marksB ((1 : Nat) : Int) B.length) ((1 + B.length : Nat) : Int) false) true :=
      Ev.step (fun k => laws_FnExactPackRuns.j2.eq_2 _ _ _ k) (evNeg (by decide) (Ev.bind hh (evNeg (by omega) (evPos rfl (Ev.now _)))))
    have j1 : Ev (fun k => laws_FnExactPackRuns.j1 k l B b B false) true := by
      refine Ev.step (fun k => laws_FnExactPackRuns.j1.eq_2 _ _ _ _ _ k) (evNeg (by decide) (Ev.bind hm (Ev.bind hh (evNeg (by omega) (evPos rfl (Ev.bind t (Ev.bind e2 (Ev.bind q (evPos rfl ?_)))))))))
      dsimp only
      rw [hbb]
      exact j2
    refine Ev.step (fun k => laws_FnExactPackRuns.j0.eq_2 _ _ _ _ _ _ _ k) (evNeg (by decide) (Ev.bind t (Ev.bind (eqInt64S_ev l (by omega)) (evPos rfl (Ev.bind (markInt64S_ev l 1 (by omega) (by omega)) (evNeg (by dsimp only; omega) (Ev.bind q (evPos rfl ?_))))))))
    rw [hbb]
    exact j1
  obtain ⟨K, h⟩ := fin
  exact ⟨K, h K (Nat.le_refl _)⟩
end Go.Proofs.Ytcdghhihfjojaaa.Pure
