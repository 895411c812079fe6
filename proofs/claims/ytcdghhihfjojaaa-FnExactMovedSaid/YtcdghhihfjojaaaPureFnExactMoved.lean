/- The plain statement of the law FnExactMoved: program and reference find the same way, for all boxes; no condition. -/
import Derived.Test.YtcdghhihfjojaaaI64
import Derived.Test.YtcdghhihfjojaaaQx1
import Derived.Test.YtcdghhihfjojaaaQx13
import Derived.Test.YtcdghhihfjojaaaQx22
import Derived.Test.YtcdghhihfjojaaaQx23
import Derived.Test.YtcdghhihfjojaaaQx24
import Derived.Test.YtcdghhihfjojaaaQx25
import Derived.Test.YtcdghhihfjojaaaQx26
import Derived.Test.YtcdghhihfjojaaaQx27
import Derived.Test.YtcdghhihfjojaaaQx28
import Derived.Test.YtcdghhihfjojaaaQx29
import Derived.Test.YtcdghhihfjojaaaQx3
set_option linter.unusedVariables false
set_option linter.unusedSimpArgs false
namespace Go.Proofs.Ytcdghhihfjojaaa.Pure
open Go.RowKit Go.Proofs.Ytcdghhihfjojaaa.Q Go.Proofs.Ytcdghhihfjojaaa.Gen Go.Proofs.YtcdghhihfjojaaaW.PrintWords Go.Proofs.YtcdghhihfjojaaaW.PrintMore

theorem l2In_eqM (a b c : Int) : spec_l2In.f a b c = some (decide (b ≤ a) && decide (a ≤ c)) := by
  unfold spec_l2In.f; by_cases h : a ≥ b <;> simp [h, show b ≤ a ↔ a ≥ b from Iff.rfl]
theorem in_eqM (a b c : Int) : impl_in.f a b c = some (decide (b ≤ a) && decide (a ≤ c)) := by
  unfold impl_in.f; by_cases h : a ≥ b <;> simp [h, show b ≤ a ↔ a ≥ b from Iff.rfl]

def inB (a b c : Int) : Bool := decide (b ≤ a) && decide (a ≤ c)
theorem inB_iff (a b c : Int) : inB a b c = true ↔ b ≤ a ∧ a ≤ c := by simp [inB]
theorem l2In_b (a b c : Int) : spec_l2In.f a b c = some (inB a b c) := l2In_eqM a b c
theorem in_b (a b c : Int) : impl_in.f a b c = some (inB a b c) := in_eqM a b c

def boxOk (r c : Int) (l : List Int) : Bool := inB r 1 24 && inB c 1 24 && decide ((l.length : Int) = wrap64 (r * c)) && l.all fun x => inB x (-1000000000) 1000000000

theorem box_spec_l0 (r c : Int) (l : List Int) (h : l.length ≤ 1099511627776) : Ev (fun k => spec_BoxOk.l0 k 0 r c l) (l.all fun x => inB x (-1000000000) 1000000000) := by
  have := scan (fun k i => spec_BoxOk.l0 k i r c l) l.length (fun j => (l.drop j).all fun x => inB x (-1000000000) 1000000000) ?_ ?_ 0 (by omega)
  · simpa using this
  · intro j hj
    simp only [all_drop l _ 0 j hj]
    by_cases hb : inB (l.getD j 0) (-1000000000) 1000000000 = true
    · refine .inl ⟨by rw [hb, Bool.true_and], 0, fun k _ => ?_⟩
      simp only [spec_BoxOk.l0]
      rw [if_pos (by omega), if_pos (by omega), rd_nat, l2In_b, hb, Option.bind_some, if_pos rfl, up1 (by omega)]
    · rw [Bool.not_eq_true] at hb
      refine .inr (Ev_succ fun k => ?_)
      simp only [spec_BoxOk.l0]
      rw [if_pos (by omega), if_pos (by omega), rd_nat, l2In_b, hb]
      rfl
  · refine Ev_succ fun k => ?_
    simp only [spec_BoxOk.l0]
    rw [if_neg (by omega)]
    simp

theorem box_impl_l0 (l : List Int) (h : l.length ≤ 1099511627776) : Ev (fun k => impl_BoxOk.l0 k l (l.length : Int) 0) (l.all fun x => inB x (-1000000000) 1000000000) := by
  have := scan (fun k i => impl_BoxOk.l0 k l (l.length : Int) i) l.length (fun j => (l.drop j).all fun x => inB x (-1000000000) 1000000000) ?_ ?_ 0 (by omega)
  · simpa using this
  · intro j hj
    simp only [all_drop l _ 0 j hj]
    by_cases hb : inB (l.getD j 0) (-1000000000) 1000000000 = true
    · refine .inl ⟨by rw [hb, Bool.true_and], 0, fun k _ => ?_⟩
      simp only [impl_BoxOk.l0]
      rw [if_pos (by omega), if_pos (by omega), if_pos (by omega), rd_nat, in_b, hb, Option.bind_some, if_pos rfl, up1 (by omega)]
    · rw [Bool.not_eq_true] at hb
      refine .inr (Ev_succ fun k => ?_)
      simp only [impl_BoxOk.l0]
      rw [if_pos (by omega), if_pos (by omega), if_pos (by omega), rd_nat, in_b, hb]
      rfl
  · refine Ev_succ fun k => ?_
    simp only [impl_BoxOk.l0]
    rw [if_neg (by omega)]
    simp

theorem box_spec (r c : Int) (l : List Int) (h : l.length ≤ 1099511627776) : Ev (fun k => spec_BoxOk.f k r c l) (boxOk r c l) := by
  simp only [spec_BoxOk.f, l2In_b, Option.bind_some]
  have no : Ev (fun k => spec_BoxOk.j0 k true r c l) false := Ev_succ fun k => by simp only [spec_BoxOk.j0]; rfl
  by_cases h1 : inB r 1 24 = true
  · refine evPos h1 ?_
    by_cases h2 : inB c 1 24 = true
    · refine evPos h2 ?_
      by_cases h3 : (l.length : Int) = wrap64 (r * c)
      · rw [show ((l.length : Int) != wrap64 (r * c)) = false by simp [h3], show boxOk r c l = l.all fun x => inB x (-1000000000) 1000000000 by simp [boxOk, h1, h2, h3]]
        refine Ev.step (fun k => ?_) (box_spec_l0 r c l h)
        simp only [spec_BoxOk.j0]
        rfl
      · rw [show ((l.length : Int) != wrap64 (r * c)) = true by simp [h3], show boxOk r c l = false by simp [boxOk, h3]]
        exact no
    · rw [show boxOk r c l = false by simp [boxOk, h2]]
      exact evNeg h2 no
  · rw [show boxOk r c l = false by simp [boxOk, h1]]
    exact evNeg h1 no

theorem box_impl (r c : Int) (l : List Int) (h : l.length ≤ 1099511627776) : Ev (fun k => impl_BoxOk.f k r c l) (boxOk r c l) := by
  simp only [impl_BoxOk.f, in_b, Option.bind_some]
  have no : Ev (fun k => impl_BoxOk.j0 k true r c l) false := Ev_succ fun k => by simp only [impl_BoxOk.j0]; rfl
  by_cases h1 : inB r 1 24 = true
  · refine evPos h1 ?_
    by_cases h2 : inB c 1 24 = true
    · refine evPos h2 ?_
      by_cases h3 : (l.length : Int) = wrap64 (r * c)
      · rw [show ((l.length : Int) != wrap64 (r * c)) = false by simp [h3], show boxOk r c l = l.all fun x => inB x (-1000000000) 1000000000 by simp [boxOk, h1, h2, h3]]
        refine Ev.step (fun k => ?_) (box_impl_l0 l h)
        simp only [impl_BoxOk.j0]
        rfl
      · rw [show ((l.length : Int) != wrap64 (r * c)) = true by simp [h3], show boxOk r c l = false by simp [boxOk, h3]]
        exact no
    · rw [show boxOk r c l = false by simp [boxOk, h2]]
      exact evNeg h2 no
  · rw [show boxOk r c l = false by simp [boxOk, h1]]
    exact evNeg h1 no

structure Bx (r c : Int) (l : List Int) : Prop where
  r0 : 1 ≤ r
  r1 : r ≤ 24
  c0 : 1 ≤ c
  c1 : c ≤ 24
  ln : (l.length : Int) = r * c

theorem prod24 {r c : Int} (r0 : 0 ≤ r) (r1 : r ≤ 24) (c0 : 0 ≤ c) (c1 : c ≤ 24) : 0 ≤ r * c ∧ r * c ≤ 576 :=
  ⟨Int.mul_nonneg r0 c0, by have := Int.mul_le_mul r1 c1 c0 (by omega); omega⟩

theorem boxOk_bx {r c : Int} {l : List Int} (h : boxOk r c l = true) : Bx r c l := by
  unfold boxOk at h
  rw [Bool.and_eq_true, Bool.and_eq_true, Bool.and_eq_true, inB_iff, inB_iff, decide_eq_true_iff] at h
  obtain ⟨⟨⟨⟨a, b⟩, c', d⟩, e⟩, _⟩ := h
  have := prod24 (r := r) (c := c) (by omega) (by omega) (by omega) (by omega)
  rw [w64 (by omega) (by omega)] at e
  exact ⟨a, b, c', d, e⟩

def hi (r c : Int) (l : List Int) (lev i j : Int) : Bool := inB i 0 (r - 1) && inB j 0 (c - 1) && decide (rd l (i * c + j) ≥ lev)

theorem place {r c i j : Int} {l : List Int} (b : Bx r c l) (i0 : 0 ≤ i) (i1 : i ≤ r - 1) (j0 : 0 ≤ j) (j1 : j ≤ c - 1) :
    wrap64 (wrap64 (i * c) + j) = i * c + j ∧ 0 ≤ i * c + j ∧ i * c + j < (l.length : Int) := by
  obtain ⟨r0, r1, c0, c1, ln⟩ := b
  have h1 := prod24 (r := i) (c := c) i0 (by omega) (by omega) c1
  have h2 : i * c ≤ (r - 1) * c := Int.mul_le_mul_of_nonneg_right i1 (by omega)
  have h3 : (r - 1) * c = r * c - c := by rw [Int.sub_mul, Int.one_mul]
  rw [w64 (by omega) (by omega : i * c ≤ _), w64 (by omega) (by omega)]
  exact ⟨rfl, by omega, by omega⟩

theorem high_spec {r c : Int} {l : List Int} (b : Bx r c l) (lev i j : Int) : spec_l12High.f r c l lev i j = some (hi r c l lev i j) := by
  have hr : wrap64 (r - 1) = r - 1 := w64 (by have := b.r0; omega) (by have := b.r1; omega)
  have hc : wrap64 (c - 1) = c - 1 := w64 (by have := b.c0; omega) (by have := b.c1; omega)
  simp only [spec_l12High.f, l2In_b, Option.bind_some, hr, hc]
  by_cases h1 : inB i 0 (r - 1) = true
  · rw [if_pos h1]
    by_cases h2 : inB j 0 (c - 1) = true
    · rw [if_pos h2]
      have e1 := (inB_iff _ _ _).mp h1
      have e2 := (inB_iff _ _ _).mp h2
      obtain ⟨p, q, s⟩ := place b e1.1 e1.2 e2.1 e2.2
      rw [p, if_pos q, if_pos s]
      simp [hi, h1, h2]
    · rw [if_neg h2]
      simp [hi, h2]
  · rw [if_neg h1]
    simp [hi, h1]

theorem high_impl {r c : Int} {l : List Int} (b : Bx r c l) (lev i j : Int) : impl_Box_high.f r c l i j lev = some (hi r c l lev i j) := by
  have hr : wrap64 (r - 1) = r - 1 := w64 (by have := b.r0; omega) (by have := b.r1; omega)
  have hc : wrap64 (c - 1) = c - 1 := w64 (by have := b.c0; omega) (by have := b.c1; omega)
  simp only [impl_Box_high.f, in_b, Option.bind_some, hr, hc]
  by_cases h1 : inB i 0 (r - 1) = true
  · rw [if_pos h1]
    by_cases h2 : inB j 0 (c - 1) = true
    · rw [if_pos h2]
      have e1 := (inB_iff _ _ _).mp h1
      have e2 := (inB_iff _ _ _).mp h2
      obtain ⟨p, q, s⟩ := place b e1.1 e1.2 e2.1 e2.2
      rw [p, if_pos q, if_pos s]
      simp [hi, h1, h2]
    · rw [if_neg h2]
      simp [hi, h2]
  · rw [if_neg h1]
    simp [hi, h1]

/-- One more where P holds. -/
def add1 (p : Bool) (n : Int) : Int := if p = true then n + 1 else n
def cntJ (P : Nat → Nat → Bool) (i : Nat) : Nat → Int
  | 0 => 0
  | j + 1 => add1 (P i j) (cntJ P i j)
def cntI (P : Nat → Nat → Bool) (c : Nat) : Nat → Int
  | 0 => 0
  | i + 1 => cntI P c i + cntJ P i c
theorem add1_le (p : Bool) (n : Int) : n ≤ add1 p n ∧ add1 p n ≤ n + 1 := by unfold add1; split <;> omega
theorem cntJ_le (P : Nat → Nat → Bool) (i j : Nat) : 0 ≤ cntJ P i j ∧ cntJ P i j ≤ j := by
  induction j with
  | zero => simp [cntJ]
  | succ j ih => have := add1_le (P i j) (cntJ P i j); simp only [cntJ]; omega
theorem cntI_le (P : Nat → Nat → Bool) (c i : Nat) (hc : c ≤ 24) : 0 ≤ cntI P c i ∧ cntI P c i ≤ 24 * i := by
  induction i with
  | zero => simp [cntI]
  | succ j ih => have := cntJ_le P j c; simp only [cntI]; omega

section
variable (r c : Nat) (l : List Int) (lev : Int) (r' c' : Int) (l' : List Int)

def both (di dj : Int) (i j : Nat) : Bool := hi r c l lev i j && hi r' c' l' lev (i + di) (j + dj)
def num (di dj : Int) : Int := cntI (both r c l lev r' c' l' di dj) c r
end

theorem num_le (r c : Nat) (l : List Int) (lev : Int) (r' c' : Int) (l' : List Int) (hc : c ≤ 24) (di dj : Int) : 0 ≤ num r c l lev r' c' l' di dj :=
  (cntI_le _ _ _ hc).1

theorem both_spec {r c : Nat} {l : List Int} {lev : Int} {r' c' : Int} {l' : List Int} (b : Bx r c l) (b' : Bx r' c' l') (di dj : Int)
    (hdi : -3 ≤ di ∧ di ≤ 3) (hdj : -3 ≤ dj ∧ dj ≤ 3) : Ev (fun k => spec_l14Both.f k r c l lev r' c' l' di dj) (num r c l lev r' c' l' di dj) := by
  have hr1 : r ≤ 24 := by have := b.r1; omega
  have hc1 : c ≤ 24 := by have := b.c1; omega
  simp only [spec_l14Both.f]
  have main : ∀ m i, r - i = m → i ≤ r → Ev (fun k => spec_l14Both.l0 k lev di dj (cntI (both r c l lev r' c' l' di dj) c i) (i : Int) r c l r' c' l') (num r c l lev r' c' l' di dj) := by
    intro m
    induction m with
    | zero =>
      intro i h1 h2
      obtain rfl : i = r := by omega
      refine Ev_succ fun k => ?_
      simp only [spec_l14Both.l0]
      rw [if_neg (by omega)]
      rfl
    | succ m ih =>
      intro i h1 h2
      have hI := cntI_le (both r c l lev r' c' l' di dj) c i hc1
      have inner : ∀ m j, c - j = m → j ≤ c → Ev (fun k => spec_l14Both.l1 k lev di dj (cntI (both r c l lev r' c' l' di dj) c i + cntJ (both r c l lev r' c' l' di dj) i j) (i : Int) (j : Int) r c l r' c' l') (num r c l lev r' c' l' di dj) := by
        intro m
        induction m with
        | zero =>
          intro j h3 h4
          obtain rfl : j = c := by omega
          refine Ev.step (fun k => ?_) (ih (i + 1) (by omega) (by omega))
          simp only [spec_l14Both.l1]
          rw [if_neg (by omega), up1 (by omega)]
          rfl
        | succ m ih2 =>
          intro j h3 h4
          have hJ := cntJ_le (both r c l lev r' c' l' di dj) i j
          refine Ev.step (fun k => ?_) (ih2 (j + 1) (by omega) (by omega))
          simp only [spec_l14Both.l1, high_spec b, high_spec b', Option.bind_some]
          rw [if_pos (by omega), w64 (x := (i : Int) + di) (by omega) (by omega), w64 (x := (j : Int) + dj) (by omega) (by omega), up1 (by omega), cntJ]
          rw [w64 (x := cntI (both r c l lev r' c' l' di dj) c i + cntJ (both r c l lev r' c' l' di dj) i j + 1) (by omega) (by omega)]
          unfold add1
          by_cases p1 : hi r c l lev i j = true
          · rw [if_pos p1]
            by_cases p2 : hi r' c' l' lev (i + di) (j + dj) = true
            · rw [if_pos p2, if_pos (by simp [both, p1, p2]), Int.add_assoc]
            · rw [if_neg p2, if_neg (by simp [both, p1, p2])]
          · rw [if_neg p1, if_neg (by simp [both, p1])]
      refine Ev.step (fun k => ?_) (inner c 0 (by omega) (by omega))
      simp only [spec_l14Both.l0]
      rw [if_pos (by omega)]
      simp [cntJ]
  exact main r 0 (by omega) (by omega)

theorem sq3 {x : Int} (h : -3 ≤ x ∧ x ≤ 3) : 0 ≤ x * x ∧ x * x ≤ 9 := by
  have : x = -3 ∨ x = -2 ∨ x = -1 ∨ x = 0 ∨ x = 1 ∨ x = 2 ∨ x = 3 := by omega
  rcases this with rfl | rfl | rfl | rfl | rfl | rfl | rfl <;> decide

def dd (x y : Int) : Int := x * x + y * y
theorem dd_w {x y : Int} (hx : -3 ≤ x ∧ x ≤ 3) (hy : -3 ≤ y ∧ y ≤ 3) : wrap64 (wrap64 (x * x) + wrap64 (y * y)) = dd x y ∧ 0 ≤ dd x y ∧ dd x y ≤ 18 := by
  have h1 := sq3 hx
  have h2 := sq3 hy
  rw [w64 (x := x * x) (by omega) (by omega), w64 (x := y * y) (by omega) (by omega), w64 (by omega) (by omega)]
  exact ⟨rfl, by unfold dd; omega, by unfold dd; omega⟩

def ix (x y : Int) : Int := (x + 3) * 7 + (y + 3)
def Rng (x : Int) : Prop := -3 ≤ x ∧ x ≤ 3

/-- What the reference's search knows at a place. -/
structure SInv (N : Int → Int → Int) (pos x y most : Int) : Prop where
  xr : Rng x
  yr : Rng y
  le : ∀ a b, Rng a → Rng b → dd a b * 49 + ix a b < pos → N a b ≤ most
  un : most = -1 ∨ (most = N x y ∧ ∀ a b, Rng a → Rng b → dd a b * 49 + ix a b < dd x y * 49 + ix x y → N a b < most)

/-- What the program's search knows at a place. -/
structure IInv (N : Int → Int → Int) (pos x y most : Int) : Prop where
  xr : Rng x
  yr : Rng y
  le : ∀ a b, Rng a → Rng b → ix a b < pos → N a b ≤ most
  tie : ∀ a b, Rng a → Rng b → ix a b < pos → N a b = most → dd x y ≤ dd a b
  ear : ∀ a b, Rng a → Rng b → ix a b < ix x y → N a b = most → dd x y < dd a b
  un : most = -1 ∨ (most = N x y)

theorem ix_inj {a b x y : Int} (ha : Rng a) (hb : Rng b) (hx : Rng x) (hy : Rng y) (h : ix a b = ix x y) : a = x ∧ b = y := by
  unfold Rng at *; unfold ix at h; omega
theorem ix_le {a b : Int} (ha : Rng a) (hb : Rng b) : 0 ≤ ix a b ∧ ix a b ≤ 48 := by unfold Rng at *; unfold ix; omega
theorem dd_le {a b : Int} (ha : Rng a) (hb : Rng b) : 0 ≤ dd a b ∧ dd a b ≤ 18 := (dd_w ha hb).2

theorem same {N : Int → Int → Int} (hN : ∀ a b, 0 ≤ N a b) {x y m x' y' m' : Int} (s : SInv N 931 x y m) (i : IInv N 49 x' y' m') : x = x' ∧ y = y' := by
  have h1 := s.le x' y' i.xr i.yr (by have := ix_le i.xr i.yr; have := dd_le i.xr i.yr; omega)
  have h2 := i.le x y s.xr s.yr (by have := ix_le s.xr s.yr; omega)
  have n1 := hN x' y'
  have n2 := hN x y
  rcases s.un with e | ⟨e, f⟩
  · omega
  rcases i.un with e' | e'
  · omega
  have hm : m = m' := by omega
  have t := i.tie x y s.xr s.yr (by have := ix_le s.xr s.yr; omega) (by omega)
  have u := f x' y' i.xr i.yr
  have v := i.ear x y s.xr s.yr
  have q1 := ix_le s.xr s.yr
  have q2 := ix_le i.xr i.yr
  by_cases hix : ix x y = ix x' y'
  · exact ix_inj s.xr s.yr i.xr i.yr hix
  · exfalso
    by_cases hlt : dd x' y' * 49 + ix x' y' < dd x y * 49 + ix x y
    · have := u hlt; omega
    · by_cases hl2 : ix x y < ix x' y'
      · have := v hl2 (by omega); omega
      · omega

theorem sinv_take {N : Int → Int → Int} {pos x y m a b : Int} (s : SInv N pos x y m) (ha : Rng a) (hb : Rng b) (hp : pos = dd a b * 49 + ix a b) (h : N a b > m) : SInv N (pos + 1) a b (N a b) := by
  refine ⟨ha, hb, fun p q hp' hq' hlt => ?_, .inr ⟨rfl, fun p q hp' hq' hlt => ?_⟩⟩
  · by_cases h2 : dd p q * 49 + ix p q < pos
    · have := s.le p q hp' hq' h2; omega
    · have e : dd p q * 49 + ix p q = dd a b * 49 + ix a b := by omega
      have i1 := ix_le ha hb
      have i2 := ix_le hp' hq'
      have e2 : ix p q = ix a b := by omega
      obtain ⟨rfl, rfl⟩ := ix_inj hp' hq' ha hb e2
      omega
  · have := s.le p q hp' hq' (by omega); omega

theorem sinv_skip {N : Int → Int → Int} {pos x y m a b d : Int} (s : SInv N pos x y m) (ha : Rng a) (hb : Rng b) (hp : pos = d * 49 + ix a b) (h : dd a b = d → N a b ≤ m) : SInv N (pos + 1) x y m := by
  refine ⟨s.xr, s.yr, fun p q hp' hq' hlt => ?_, s.un⟩
  by_cases h2 : dd p q * 49 + ix p q < pos
  · exact s.le p q hp' hq' h2
  · have i1 := ix_le ha hb
    have i2 := ix_le hp' hq'
    have e : ix p q = ix a b ∧ dd p q = d := by omega
    obtain ⟨rfl, rfl⟩ := ix_inj hp' hq' ha hb e.1
    exact h e.2

theorem iinv_take {N : Int → Int → Int} (hN : ∀ a b, 0 ≤ N a b) {pos x y m a b : Int} (s : IInv N pos x y m) (ha : Rng a) (hb : Rng b) (hp : pos = ix a b) (h : N a b > m ∨ (N a b = m ∧ dd a b < dd x y)) : IInv N (pos + 1) a b (N a b) := by
  have key : ∀ p q, Rng p → Rng q → ix p q < pos + 1 → ix p q < pos ∨ (p = a ∧ q = b) := by
    intro p q hp' hq' hlt
    by_cases h2 : ix p q < pos
    · exact .inl h2
    · exact .inr (ix_inj hp' hq' ha hb (by omega))
  refine ⟨ha, hb, fun p q hp' hq' hlt => ?_, fun p q hp' hq' hlt he => ?_, fun p q hp' hq' hlt he => ?_, .inr rfl⟩
  · rcases key p q hp' hq' hlt with h2 | ⟨rfl, rfl⟩
    · have := s.le p q hp' hq' h2; omega
    · omega
  · rcases key p q hp' hq' hlt with h2 | ⟨rfl, rfl⟩
    · have h3 := s.le p q hp' hq' h2
      have h4 := s.tie p q hp' hq' h2
      rcases h with h | ⟨h, h'⟩
      · omega
      · have := h4 (by omega); omega
    · omega
  · have h3 := s.le p q hp' hq' (by omega)
    have h4 := s.tie p q hp' hq' (by omega)
    rcases h with h | ⟨h, h'⟩
    · omega
    · have := h4 (by omega); omega

theorem iinv_skip {N : Int → Int → Int} {pos x y m a b : Int} (s : IInv N pos x y m) (ha : Rng a) (hb : Rng b) (hp : pos = ix a b) (h : N a b ≤ m) (h' : N a b = m → dd x y ≤ dd a b) : IInv N (pos + 1) x y m := by
  have key : ∀ p q, Rng p → Rng q → ix p q < pos + 1 → ix p q < pos ∨ (p = a ∧ q = b) := by
    intro p q hp' hq' hlt
    by_cases h2 : ix p q < pos
    · exact .inl h2
    · exact .inr (ix_inj hp' hq' ha hb (by omega))
  refine ⟨s.xr, s.yr, fun p q hp' hq' hlt => ?_, fun p q hp' hq' hlt he => ?_, s.ear, s.un⟩
  · rcases key p q hp' hq' hlt with h2 | ⟨rfl, rfl⟩
    · exact s.le p q hp' hq' h2
    · omega
  · rcases key p q hp' hq' hlt with h2 | ⟨rfl, rfl⟩
    · exact s.tie p q hp' hq' h2 he
    · exact h' he

theorem moved_spec {r c : Nat} {l : List Int} {lev : Int} {r' c' : Int} {l' : List Int} (b : Bx r c l) (b' : Bx r' c' l') :
    ∃ x y m, SInv (num r c l lev r' c' l') 931 x y m ∧ Ev (fun k => spec_Moved.l0 k lev 0 0 (-1) 0 r c l r' c' l') (x, y, true) := by
  have hc1 : c ≤ 24 := by have := b.c1; omega
  have hN := num_le r c l lev r' c' l' hc1
  have main : ∀ (t : Nat) (d x y m : Int), 19 - d = t → 0 ≤ d → SInv (num r c l lev r' c' l') (d * 49) x y m →
      ∃ x' y' m', SInv (num r c l lev r' c' l') 931 x' y' m' ∧ Ev (fun k => spec_Moved.l0 k lev x y m d r c l r' c' l') (x', y', true) := by
    intro t
    induction t with
    | zero =>
      intro d x y m h1 h2 s
      obtain rfl : d = 19 := by omega
      refine ⟨x, y, m, s, Ev_succ fun k => ?_⟩
      simp only [spec_Moved.l0]
      rw [if_neg (by omega)]
    | succ t ih =>
      intro d x y m h1 h2 s
      have mid : ∀ (t : Nat) (di x y m : Int), 4 - di = t → -3 ≤ di → SInv (num r c l lev r' c' l') (d * 49 + (di + 3) * 7) x y m →
          ∃ x' y' m', SInv (num r c l lev r' c' l') 931 x' y' m' ∧ Ev (fun k => spec_Moved.l1 k lev x y m d di r c l r' c' l') (x', y', true) := by
        intro t
        induction t with
        | zero =>
          intro di x y m h3 h4 s
          obtain rfl : di = 4 := by omega
          obtain ⟨x', y', m', s', e⟩ := ih (d + 1) x y m (by omega) (by omega) (by rw [show (d + 1) * 49 = d * 49 + (4 + 3) * 7 by omega]; exact s)
          refine ⟨x', y', m', s', Ev.step (fun k => ?_) e⟩
          simp only [spec_Moved.l1]
          rw [if_neg (by omega), w64 (by omega) (by omega)]
        | succ t ih2 =>
          intro di x y m h3 h4 s
          have hdi : Rng di := ⟨h4, by omega⟩
          have low : ∀ (t : Nat) (dj x y m : Int), 4 - dj = t → -3 ≤ dj → SInv (num r c l lev r' c' l') (d * 49 + ((di + 3) * 7 + (dj + 3))) x y m →
              ∃ x' y' m', SInv (num r c l lev r' c' l') 931 x' y' m' ∧ Ev (fun k => spec_Moved.l2 k lev x y m d di dj r c l r' c' l') (x', y', true) := by
            intro t
            induction t with
            | zero =>
              intro dj x y m h5 h6 s
              obtain rfl : dj = 4 := by omega
              obtain ⟨x', y', m', s', e⟩ := ih2 (di + 1) x y m (by omega) (by omega) (by rw [show d * 49 + (di + 1 + 3) * 7 = d * 49 + ((di + 3) * 7 + (4 + 3)) by omega]; exact s)
              refine ⟨x', y', m', s', Ev.step (fun k => ?_) e⟩
              simp only [spec_Moved.l2]
              rw [if_neg (by omega), w64 (by omega) (by omega)]
            | succ t ih3 =>
              intro dj x y m h5 h6 s
              have hdj : Rng dj := ⟨h6, by omega⟩
              have e49 : d * 49 + ((di + 3) * 7 + (dj + 1 + 3)) = d * 49 + ((di + 3) * 7 + (dj + 3)) + 1 := by omega
              by_cases hd : dd di dj = d
              · by_cases hn : num r c l lev r' c' l' di dj > m
                · obtain ⟨x', y', m', s', K, e⟩ := ih3 (dj + 1) di dj (num r c l lev r' c' l' di dj) (by omega) (by omega) (by rw [e49]; exact sinv_take s hdi hdj (by rw [hd]; rfl) hn)
                  obtain ⟨K2, e2⟩ := both_spec (lev := lev) b b' di dj hdi hdj
                  refine ⟨x', y', m', s', max K K2 + 1, fun k hk => ?_⟩
                  obtain ⟨k, rfl⟩ : ∃ j, k = j + 1 := ⟨k - 1, by omega⟩
                  have e2 := e2 k (by omega)
                  have e := e k (by omega)
                  simp only [spec_Moved.l2] at e2 e ⊢
                  rw [if_pos (by omega), (dd_w hdi hdj).1, if_pos hd, e2, Option.bind_some, if_pos hn, w64 (by omega) (by omega)]
                  exact e
                · obtain ⟨x', y', m', s', K, e⟩ := ih3 (dj + 1) x y m (by omega) (by omega) (by rw [e49]; exact sinv_skip s hdi hdj rfl (fun _ => by omega))
                  obtain ⟨K2, e2⟩ := both_spec (lev := lev) b b' di dj hdi hdj
                  refine ⟨x', y', m', s', max K K2 + 1, fun k hk => ?_⟩
                  obtain ⟨k, rfl⟩ : ∃ j, k = j + 1 := ⟨k - 1, by omega⟩
                  have e2 := e2 k (by omega)
                  have e := e k (by omega)
                  simp only [spec_Moved.l2] at e2 e ⊢
                  rw [if_pos (by omega), (dd_w hdi hdj).1, if_pos hd, e2, Option.bind_some, if_neg hn, w64 (by omega) (by omega)]
                  exact e
              · obtain ⟨x', y', m', s', e⟩ := ih3 (dj + 1) x y m (by omega) (by omega) (by rw [e49]; exact sinv_skip s hdi hdj rfl (fun h => absurd h hd))
                refine ⟨x', y', m', s', Ev.step (fun k => ?_) e⟩
                simp only [spec_Moved.l2]
                rw [if_pos (by omega), (dd_w hdi hdj).1, if_neg hd, w64 (by omega) (by omega)]
          obtain ⟨x', y', m', s', e⟩ := low 7 (-3) x y m (by omega) (by omega) (by rw [show d * 49 + ((di + 3) * 7 + (-3 + 3)) = d * 49 + (di + 3) * 7 by omega]; exact s)
          refine ⟨x', y', m', s', Ev.step (fun k => ?_) e⟩
          simp only [spec_Moved.l1]
          rw [if_pos (by omega)]
      obtain ⟨x', y', m', s', e⟩ := mid 7 (-3) x y m (by omega) (by omega) (by rw [show d * 49 + (-3 + 3) * 7 = d * 49 by omega]; exact s)
      refine ⟨x', y', m', s', Ev.step (fun k => ?_) e⟩
      simp only [spec_Moved.l0]
      rw [if_pos (by omega)]
  refine main 19 0 0 0 (-1) (by omega) (by omega) ⟨⟨by omega, by omega⟩, ⟨by omega, by omega⟩, fun p q hp hq hlt => ?_, .inl rfl⟩
  have := ix_le hp hq
  have := dd_le hp hq
  omega

theorem moved_impl {r c : Nat} {l : List Int} {lev : Int} {r' c' : Int} {l' : List Int} (b : Bx r c l) (b' : Bx r' c' l') :
    ∃ x y m, IInv (num r c l lev r' c' l') 49 x y m ∧ Ev (fun k => impl_Moved.l0 k lev (-1) 0 0 (-3) r c l r' c' l') (x, y, true) := by
  have hr1 : r ≤ 24 := by have := b.r1; omega
  have hc1 : c ≤ 24 := by have := b.c1; omega
  have hN := num_le r c l lev r' c' l' hc1
  -- the counting, with what comes behind it
  have counting : ∀ (m x y di dj : Int) (q : Int × Int × Bool), Rng di → Rng dj →
      Ev (fun k => if num r c l lev r' c' l' di dj > m then impl_Moved.l1 k lev (num r c l lev r' c' l' di dj) di dj di (dj + 1) r c l r' c' l' else (if num r c l lev r' c' l' di dj = m then (if dd di dj < wrap64 (wrap64 (x * x) + wrap64 (y * y)) then impl_Moved.l1 k lev (num r c l lev r' c' l' di dj) di dj di (dj + 1) r c l r' c' l' else impl_Moved.l1 k lev m x y di (dj + 1) r c l r' c' l') else impl_Moved.l1 k lev m x y di (dj + 1) r c l r' c' l')) q →
      Ev (fun k => impl_Moved.l2 k lev m x y di dj 0 0 r c l r' c' l') q := by
    intro m x y di dj q hdi hdj hq
    have main : ∀ t i, r - i = t → i ≤ r → Ev (fun k => impl_Moved.l2 k lev m x y di dj (cntI (both r c l lev r' c' l' di dj) c i) (i : Int) r c l r' c' l') q := by
      intro t
      induction t with
      | zero =>
        intro i h1 h2
        obtain rfl : i = r := by omega
        refine Ev.step (fun k => ?_) hq
        simp only [impl_Moved.l2]
        rw [if_neg (by omega), (dd_w hdi hdj).1, w64 (x := dj + 1) (by have := hdj.1; omega) (by have := hdj.2; omega)]
        rfl
      | succ t ih =>
        intro i h1 h2
        have hI := cntI_le (both r c l lev r' c' l' di dj) c i hc1
        have inner : ∀ t j, c - j = t → j ≤ c → Ev (fun k => impl_Moved.l3 k lev m x y di dj (cntI (both r c l lev r' c' l' di dj) c i + cntJ (both r c l lev r' c' l' di dj) i j) (i : Int) (j : Int) r c l r' c' l') q := by
          intro t
          induction t with
          | zero =>
            intro j h3 h4
            obtain rfl : j = c := by omega
            refine Ev.step (fun k => ?_) (ih (i + 1) (by omega) (by omega))
            simp only [impl_Moved.l3]
            rw [if_neg (by omega), up1 (by omega)]
            rfl
          | succ t ih2 =>
            intro j h3 h4
            have hJ := cntJ_le (both r c l lev r' c' l' di dj) i j
            have hdi' := hdi
            have hdj' := hdj
            unfold Rng at hdi' hdj'
            refine Ev.step (fun k => ?_) (ih2 (j + 1) (by omega) (by omega))
            simp only [impl_Moved.l3, high_impl b, high_impl b', Option.bind_some]
            rw [if_pos (by omega), w64 (x := (i : Int) + di) (by omega) (by omega), w64 (x := (j : Int) + dj) (by omega) (by omega), up1 (by omega), cntJ]
            rw [w64 (x := cntI (both r c l lev r' c' l' di dj) c i + cntJ (both r c l lev r' c' l' di dj) i j + 1) (by omega) (by omega)]
            unfold add1
            by_cases p1 : hi r c l lev i j = true
            · rw [if_pos p1]
              by_cases p2 : hi r' c' l' lev (i + di) (j + dj) = true
              · rw [if_pos p2, if_pos (by simp [both, p1, p2]), Int.add_assoc]
              · rw [if_neg p2, if_neg (by simp [both, p1, p2])]
            · rw [if_neg p1, if_neg (by simp [both, p1])]
        refine Ev.step (fun k => ?_) (inner c 0 (by omega) (by omega))
        simp only [impl_Moved.l2]
        rw [if_pos (by omega)]
        simp [cntJ]
    exact main r 0 (by omega) (by omega)
  have main : ∀ (t : Nat) (di x y m : Int), 4 - di = t → -3 ≤ di → IInv (num r c l lev r' c' l') ((di + 3) * 7) x y m →
      ∃ x' y' m', IInv (num r c l lev r' c' l') 49 x' y' m' ∧ Ev (fun k => impl_Moved.l0 k lev m x y di r c l r' c' l') (x', y', true) := by
    intro t
    induction t with
    | zero =>
      intro di x y m h1 h2 s
      obtain rfl : di = 4 := by omega
      refine ⟨x, y, m, s, Ev_succ fun k => ?_⟩
      simp only [impl_Moved.l0]
      rw [if_neg (by omega)]
    | succ t ih =>
      intro di x y m h1 h2 s
      have hdi : Rng di := ⟨h2, by omega⟩
      have mid : ∀ (t : Nat) (dj x y m : Int), 4 - dj = t → -3 ≤ dj → IInv (num r c l lev r' c' l') ((di + 3) * 7 + (dj + 3)) x y m →
          ∃ x' y' m', IInv (num r c l lev r' c' l') 49 x' y' m' ∧ Ev (fun k => impl_Moved.l1 k lev m x y di dj r c l r' c' l') (x', y', true) := by
        intro t
        induction t with
        | zero =>
          intro dj x y m h3 h4 s
          obtain rfl : dj = 4 := by omega
          obtain ⟨x', y', m', s', e⟩ := ih (di + 1) x y m (by omega) (by omega) (by rw [show (di + 1 + 3) * 7 = (di + 3) * 7 + (4 + 3) by omega]; exact s)
          refine ⟨x', y', m', s', Ev.step (fun k => ?_) e⟩
          simp only [impl_Moved.l1]
          rw [if_neg (by omega), w64 (by omega) (by omega)]
        | succ t ih2 =>
          intro dj x y m h3 h4 s
          have hdj : Rng dj := ⟨h4, by omega⟩
          have e7 : (di + 3) * 7 + (dj + 1 + 3) = (di + 3) * 7 + (dj + 3) + 1 := by omega
          have go : ∃ x' y' m', IInv (num r c l lev r' c' l') 49 x' y' m' ∧ Ev (fun k => impl_Moved.l2 k lev m x y di dj 0 0 r c l r' c' l') (x', y', true) := by
            by_cases hn : num r c l lev r' c' l' di dj > m
            · obtain ⟨x', y', m', s', e⟩ := ih2 (dj + 1) di dj (num r c l lev r' c' l' di dj) (by omega) (by omega) (by rw [e7]; exact iinv_take hN s hdi hdj rfl (.inl hn))
              exact ⟨x', y', m', s', counting m x y di dj _ hdi hdj (evPos hn e)⟩
            · by_cases hm : num r c l lev r' c' l' di dj = m
              · by_cases hd : dd di dj < wrap64 (wrap64 (x * x) + wrap64 (y * y))
                · have hd' := hd
                  rw [(dd_w s.xr s.yr).1] at hd'
                  obtain ⟨x', y', m', s', e⟩ := ih2 (dj + 1) di dj (num r c l lev r' c' l' di dj) (by omega) (by omega) (by rw [e7]; exact iinv_take hN s hdi hdj rfl (.inr ⟨hm, hd'⟩))
                  exact ⟨x', y', m', s', counting m x y di dj _ hdi hdj (evNeg hn (evPos hm (evPos hd e)))⟩
                · have hd' := hd
                  rw [(dd_w s.xr s.yr).1] at hd'
                  obtain ⟨x', y', m', s', e⟩ := ih2 (dj + 1) x y m (by omega) (by omega) (by rw [e7]; exact iinv_skip s hdi hdj rfl (by omega) (fun _ => by omega))
                  exact ⟨x', y', m', s', counting m x y di dj _ hdi hdj (evNeg hn (evPos hm (evNeg hd e)))⟩
              · obtain ⟨x', y', m', s', e⟩ := ih2 (dj + 1) x y m (by omega) (by omega) (by rw [e7]; exact iinv_skip s hdi hdj rfl (by omega) (fun h => absurd h hm))
                exact ⟨x', y', m', s', counting m x y di dj _ hdi hdj (evNeg hn (evNeg hm e))⟩
          obtain ⟨x', y', m', s', e⟩ := go
          refine ⟨x', y', m', s', Ev.step (fun k => ?_) e⟩
          simp only [impl_Moved.l1]
          rw [if_pos (by omega)]
      obtain ⟨x', y', m', s', e⟩ := mid 7 (-3) x y m (by omega) (by omega) (by rw [show (di + 3) * 7 + (-3 + 3) = (di + 3) * 7 by omega]; exact s)
      refine ⟨x', y', m', s', Ev.step (fun k => ?_) e⟩
      simp only [impl_Moved.l0]
      rw [if_pos (by omega)]
  refine main 7 (-3) 0 0 (-1) (by omega) (by omega) ⟨⟨by omega, by omega⟩, ⟨by omega, by omega⟩, fun p q hp hq hlt => ?_, fun p q hp hq hlt he => ?_, fun p q hp hq hlt he => ?_, .inl rfl⟩
  · have := ix_le hp hq; omega
  · have := ix_le hp hq; omega
  · have := hN p q; omega

theorem moved_both (r c : Int) (l : List Int) (lev r' c' : Int) (l' : List Int) (h : l.length ≤ 1099511627776) (h' : l'.length ≤ 1099511627776) :
    ∃ q, Ev (fun k => spec_Moved.f k r c l lev r' c' l') q ∧ Ev (fun k => impl_Moved.f k r c l lev r' c' l') q := by
  simp only [spec_Moved.f, impl_Moved.f]
  have nos : Ev (fun k => spec_Moved.j0 k lev true r c l r' c' l') (0, 0, false) := Ev_succ fun k => by simp only [spec_Moved.j0]; rfl
  have noi : Ev (fun k => impl_Moved.j0 k lev true r c l r' c' l') (0, 0, false) := Ev_succ fun k => by simp only [impl_Moved.j0]; rfl
  by_cases h1 : boxOk r c l = true
  · by_cases h2 : boxOk r' c' l' = true
    · by_cases h3 : r = r'
      · by_cases h4 : c = c'
        · have b := boxOk_bx h1
          have b' := boxOk_bx h2
          obtain ⟨rn, rfl⟩ : ∃ n : Nat, r = n := ⟨r.toNat, by have := b.r0; omega⟩
          obtain ⟨cn, rfl⟩ : ∃ n : Nat, c = n := ⟨c.toNat, by have := b.c0; omega⟩
          obtain ⟨x, y, m, s, e⟩ := moved_spec (lev := lev) b b'
          obtain ⟨x', y', m', i, e'⟩ := moved_impl (lev := lev) b b'
          have hc1 : cn ≤ 24 := by have := b.c1; omega
          obtain ⟨rfl, rfl⟩ := same (num_le rn cn l lev r' c' l' hc1) s i
          refine ⟨(x, y, true), Ev.bind (box_spec _ _ l h) (evPos h1 (Ev.bind (box_spec _ _ l' h') (evPos h2 (evPos h3 ?_)))), Ev.bind (box_impl _ _ l h) (evPos h1 (Ev.bind (box_impl _ _ l' h') (evPos h2 (evPos h3 ?_))))⟩
          · rw [show ((cn : Int) != c') = false by simp [h4]]
            refine Ev.step (fun k => ?_) e
            simp only [spec_Moved.j0]
            rfl
          · rw [show ((cn : Int) != c') = false by simp [h4]]
            refine Ev.step (fun k => ?_) e'
            simp only [impl_Moved.j0]
            rfl
        · refine ⟨(0, 0, false), Ev.bind (box_spec _ _ l h) (evPos h1 (Ev.bind (box_spec _ _ l' h') (evPos h2 (evPos h3 ?_)))), Ev.bind (box_impl _ _ l h) (evPos h1 (Ev.bind (box_impl _ _ l' h') (evPos h2 (evPos h3 ?_))))⟩
          · rw [show (c != c') = true by simp [h4]]; exact nos
          · rw [show (c != c') = true by simp [h4]]; exact noi
      · exact ⟨(0, 0, false), Ev.bind (box_spec _ _ l h) (evPos h1 (Ev.bind (box_spec _ _ l' h') (evPos h2 (evNeg h3 nos)))), Ev.bind (box_impl _ _ l h) (evPos h1 (Ev.bind (box_impl _ _ l' h') (evPos h2 (evNeg h3 noi))))⟩
    · exact ⟨(0, 0, false), Ev.bind (box_spec _ _ l h) (evPos h1 (Ev.bind (box_spec _ _ l' h') (evNeg h2 nos))), Ev.bind (box_impl _ _ l h) (evPos h1 (Ev.bind (box_impl _ _ l' h') (evNeg h2 noi)))⟩
  · exact ⟨(0, 0, false), Ev.bind (box_spec _ _ l h) (evNeg h1 nos), Ev.bind (box_impl _ _ l h) (evNeg h1 noi)⟩

theorem toBox_ev (a b : Int) (l : List Int) (h : l.length ≤ 1048576) : Ev (fun k => laws_toBox.f k a b l) (a, b, l) := by
  simp only [laws_toBox.f]
  exact Ev.bind (toInt64S_ev l h) (Ev.now _)
theorem eqBox_ev (a b : Int) (l : List Int) (h : l.length ≤ 1048576) : Ev (fun k => laws_eqBox.f k a b l a b l) true := by
  simp only [laws_eqBox.f]
  exact evPos trivial (evPos trivial (Ev.bind (eqInt64S_ev l (by omega)) (evPos rfl (Ev.now _))))

theorem szBox_eq (a b : Int) (l : List Int) (n : Int) (h0 : 0 ≤ n) (hn : n ≤ 1048576) (hl : l.length ≤ 9223372036854775807) :
    (laws_szBox.f a b l n = some (-1) ∧ n < l.length) ∨ (laws_szBox.f a b l n = some (n - l.length) ∧ l.length ≤ n) := by
  unfold laws_szBox.f laws_szInt64S.f
  rw [w64 (x := n - (l.length : Int)) (by omega) (by omega)]
  by_cases h : n - (l.length : Int) < 0
  · left; rw [if_pos h]; exact ⟨rfl, by omega⟩
  · right; rw [if_neg h, Option.bind_some, if_neg h]; exact ⟨rfl, by omega⟩

theorem FnExactMoved : laws_FnExactMoved.Pure := by
  intro r c l lev r' c' l' hl _ hl'
  refine Ev.rounds ?_
  simp only [laws_FnExactMoved.f]
  rcases szBox_eq r c l 1048576 (by omega) (by omega) hl with ⟨e, h⟩ | ⟨e, h⟩
  · simp only [e, Option.bind_some]
    exact evPos (by decide) (Ev.now _)
  · simp only [e, Option.bind_some]
    refine evNeg (by omega) ?_
    rcases szBox_eq r' c' l' (1048576 - l.length) (by omega) (by omega) hl' with ⟨e2, h2⟩ | ⟨e2, h2⟩
    · simp only [e2, Option.bind_some]
      exact evPos (by decide) (Ev.now _)
    · simp only [e2, Option.bind_some]
      refine evNeg (by omega) ?_
      have hn : l.length ≤ 1048576 := by omega
      have hn' : l'.length ≤ 1048576 := by omega
      obtain ⟨q, es, ei⟩ := moved_both r c l lev r' c' l' (by omega) (by omega)
      refine Ev.bind (toBox_ev r c l hn) (Ev.bind (toBox_ev r' c' l' hn') (Ev.bind es (Ev.bind (toBox_ev r c l hn) (Ev.bind (toBox_ev r' c' l' hn') (Ev.bind ei ?_)))))
      refine evPos rfl (evPos rfl ?_)
      rw [show (q.2.2 != q.2.2) = false by simp]
      refine Ev.step (f := fun k => (laws_toBox.f k r c l).bind fun bt452 => ((laws_eqBox.f k r c l bt452.1 bt452.2.1 bt452.2.2).bind fun t457 => (if t457 = true then ((laws_toBox.f k r' c' l').bind fun bt458 => ((laws_eqBox.f k r' c' l' bt458.1 bt458.2.1 bt458.2.2).bind fun t463 => (if t463 = true then (some true) else (some false)))) else (some false)))) (fun k => ?_) ?_
      · simp only [laws_FnExactMoved.j0]; rfl
      · exact Ev.bind (toBox_ev r c l hn) (Ev.bind (eqBox_ev r c l hn) (evPos rfl (Ev.bind (toBox_ev r' c' l' hn') (Ev.bind (eqBox_ev r' c' l' hn') (evPos rfl (Ev.now _))))))

end Go.Proofs.Ytcdghhihfjojaaa.Pure
