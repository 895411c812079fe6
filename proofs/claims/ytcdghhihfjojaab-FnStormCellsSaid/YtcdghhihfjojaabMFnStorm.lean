/- The plain statement of the law FnStormCells: in every drawn box the cells are numbered in order, touching cells alike, and a box against itself has not moved; no condition. -/
import Derived.Test.YtcdghhihfjojaabWWords
import Derived.Test.YtcdghhihfjojaabWMore
import Derived.Test.YtcdghhihfjojaabQx3
import Derived.Test.YtcdghhihfjojaabQx9
import Derived.Test.YtcdghhihfjojaabQx20
import Derived.Test.YtcdghhihfjojaabQx21
import Derived.Test.YtcdghhihfjojaabQx22
import Derived.Test.YtcdghhihfjojaabQx26
import Derived.Test.YtcdghhihfjojaabQx27
import Derived.Deep.Slices
import Derived.ChangeArms
import Derived.WideShapes
import Derived.Test.YtcdghhihfjojaabFlt
import Derived.Test.YtcdghhihfjojaabQx10
import Derived.Test.YtcdghhihfjojaabQx11
import Derived.Test.YtcdghhihfjojaabQx12
import Derived.Test.YtcdghhihfjojaabQx19
import Derived.Test.YtcdghhihfjojaabQx23
import Derived.Test.YtcdghhihfjojaabQx24
import Derived.Test.YtcdghhihfjojaabQx25
import Derived.Test.YtcdghhihfjojaabQx28
import Derived.Test.YtcdghhihfjojaabQx29
import Derived.Test.YtcdghhihfjojaabQx30
import Derived.Test.YtcdghhihfjojaabQx31
import Derived.Test.YtcdghhihfjojaabQx4
import Derived.Test.YtcdghhihfjojaabRows
import Derived.WalkKit
import Derived.ProofKit
import Derived.OpenShut
import Derived.ShutString
import Derived.ChangeOld
import Derived.Below
import Derived.SizedLaws
import Derived.Test.YtcdghhihfjojaabWSized

section
/- Loops told by rounds: general lemmas for the plain statements of this seat: a loop with an invariant and a measure ends; copying, comparing, marking of lists. No condition. -/
set_option linter.unusedVariables false
set_option linter.unusedSimpArgs false
namespace Go.Proofs.Ytcdghhihfjojaab.Gen
open Go.RowKit Go.Proofs.YtcdghhihfjojaabW.PrintWords Go.Proofs.YtcdghhihfjojaabW.PrintMore

theorem loop {S R : Type} (g : Nat → S → Option R) (μ : S → Nat) (Inv : S → Prop) (Q : R → Prop)
    (step : ∀ s, Inv s → (∃ r, Q r ∧ Ev (fun k => g k s) r) ∨ ∃ s', Inv s' ∧ μ s' < μ s ∧ ∃ K, ∀ k, K ≤ k → g (k + 1) s = g k s') :
    ∀ s, Inv s → ∃ r, Q r ∧ Ev (fun k => g k s) r := by
  intro s
  induction hm : μ s using Nat.strongRecOn generalizing s with
  | _ m ih =>
    intro hs
    rcases step s hs with h | ⟨s', hs', hlt, K, hK⟩
    · exact h
    · obtain ⟨r, hq, K', hr⟩ := ih (μ s') (hm ▸ hlt) s' rfl hs'
      refine ⟨r, hq, max K K' + 1, fun k hk => ?_⟩
      obtain ⟨j, rfl⟩ : ∃ j, k = j + 1 := ⟨k - 1, by omega⟩
      show g (j + 1) s = some r
      rw [hK j (by omega)]
      exact hr j (by omega)

/-- A loop whose answer is known. -/
theorem loopEq {S R : Type} (g : Nat → S → Option R) (μ : S → Nat) (Inv : S → Prop) (r : R)
    (step : ∀ s, Inv s → Ev (fun k => g k s) r ∨ ∃ s', Inv s' ∧ μ s' < μ s ∧ ∃ K, ∀ k, K ≤ k → g (k + 1) s = g k s') :
    ∀ s, Inv s → Ev (fun k => g k s) r := by
  intro s hs
  obtain ⟨q, rfl, h⟩ := loop g μ Inv (fun q => q = r) (fun s hs => by
    rcases step s hs with h | h
    · exact .inl ⟨r, rfl, h⟩
    · exact .inr h) s hs
  exact h

theorem Ev_succ {R : Type} {g : Nat → Option R} {r : R} (h : ∀ k, g (k + 1) = some r) : Ev g r :=
  Ev.step (f := fun _ => some r) h (Ev.now r)

theorem evPos {R : Type} {c : Prop} [Decidable c] {g g' : Nat → Option R} {r : R} (hc : c) (h : Ev g r) : Ev (fun k => if c then g k else g' k) r := by
  simpa only [if_pos hc] using h
theorem evNeg {R : Type} {c : Prop} [Decidable c] {g g' : Nat → Option R} {r : R} (hc : ¬ c) (h : Ev g' r) : Ev (fun k => if c then g k else g' k) r := by
  simpa only [if_neg hc] using h
theorem ev_at {R : Type} {g : Nat → Option R} {r : R} (h : Ev g r) : ∃ K, ∀ k, K ≤ k → g k = some r := h

theorem w64 {x : Int} (h0 : -9223372036854775808 ≤ x) (h1 : x ≤ 9223372036854775807) : wrap64 x = x := by unfold wrap64; omega

theorem wf64 {x : Int} (h : (Lit.int .i64 x).wf = true) : -9223372036854775808 ≤ x ∧ x ≤ 9223372036854775807 := by
  simp [Lit.wf] at h
  exact ⟨h.1, h.2⟩

/-! lists -/
theorem rd_nat (xs : List Int) (i : Nat) : rd xs (i : Int) = xs.getD i 0 := by simp [rd]
theorem toNat_nat (i : Nat) : ((i : Int)).toNat = i := Int.toNat_natCast i

theorem getD_append_left {α} (xs ys : List α) (d : α) {i : Nat} (h : i < xs.length) : (xs ++ ys).getD i d = xs.getD i d := by
  simp [List.getD_eq_getElem?_getD, List.getElem?_append_left h]

/-- Copying element by element into a list of the same length. -/
theorem take_set_succ {α} (xs ys : List α) (d : α) (i : Nat) (hl : ys.length = xs.length) (hi : i < xs.length) (h : ys.take i = xs.take i) :
    (ys.set i (xs.getD i d)).take (i + 1) = xs.take (i + 1) := by
  apply List.ext_getElem?
  intro j
  have hj := congrArg (fun l => l[j]?) h
  simp only [List.getElem?_take] at hj ⊢
  by_cases h1 : j < i
  · simp [h1] at hj
    have : j < i + 1 := by omega
    simp [this, List.getElem?_set, show i ≠ j by omega, hj]
  · by_cases h2 : j = i
    · subst h2
      simp [List.getElem?_set, hl, hi, List.getD_eq_getElem?_getD]
    · have : ¬ j < i + 1 := by omega
      simp [this]

theorem eq_of_take {α} (xs ys : List α) (hl : ys.length = xs.length) (h : ys.take xs.length = xs.take xs.length) : ys = xs := by
  rw [List.take_of_length_le (by omega), List.take_of_length_le (by omega)] at h
  exact h

/-- The numbers from a on. -/
def marks (a : Int) (n : Nat) : List Int := (List.range n).map fun (j : Nat) => a + (j : Int)
theorem marks_length (a : Int) (n : Nat) : (marks a n).length = n := by simp [marks]
theorem marks_get (a : Int) (n i : Nat) (h : i < n) : (marks a n).getD i 0 = a + (i : Int) := by
  simp [marks, List.getD_eq_getElem?_getD, h]

/-- A counting loop whose state is known at each round. -/
theorem count {S R : Type} (g : Nat → Int → S → Option R) (n : Nat) (st : Nat → S) (r : R)
    (step : ∀ j, j < n → ∃ K, ∀ k, K ≤ k → g (k + 1) (j : Int) (st j) = g k ((j + 1 : Nat) : Int) (st (j + 1)))
    (last : Ev (fun k => g k (n : Int) (st n)) r) : ∀ j, j ≤ n → Ev (fun k => g k (j : Int) (st j)) r := by
  intro j hj
  induction hd : n - j generalizing j with
  | zero =>
    obtain rfl : j = n := by omega
    exact last
  | succ d ih =>
    obtain ⟨K, hK⟩ := step j (by omega)
    obtain ⟨K', h'⟩ := ih (j + 1) (by omega) (by omega)
    refine ⟨max K K' + 1, fun k hk => ?_⟩
    obtain ⟨m, rfl⟩ : ∃ m, k = m + 1 := ⟨k - 1, by omega⟩
    show g (m + 1) (j : Int) (st j) = some r
    rw [hK m (by omega)]
    exact h' m (by omega)

/-- A loop that may end early: what it answers from each place on is known. -/
theorem scan {R : Type} (g : Nat → Int → Option R) (n : Nat) (res : Nat → R)
    (step : ∀ j, j < n → (res j = res (j + 1) ∧ ∃ K, ∀ k, K ≤ k → g (k + 1) (j : Int) = g k ((j + 1 : Nat) : Int)) ∨ Ev (fun k => g k (j : Int)) (res j))
    (last : Ev (fun k => g k (n : Int)) (res n)) : ∀ j, j ≤ n → Ev (fun k => g k (j : Int)) (res j) := by
  intro j hj
  induction hd : n - j generalizing j with
  | zero =>
    obtain rfl : j = n := by omega
    exact last
  | succ d ih =>
    rcases step j (by omega) with ⟨e, K, hK⟩ | h
    · obtain ⟨K', h'⟩ := ih (j + 1) (by omega) (by omega)
      refine ⟨max K K' + 1, fun k hk => ?_⟩
      obtain ⟨m, rfl⟩ : ∃ m, k = m + 1 := ⟨k - 1, by omega⟩
      show g (m + 1) (j : Int) = some (res j)
      rw [hK m (by omega), e]
      exact h' m (by omega)
    · exact h

/-- A scan where each place's answer follows from the next one's. -/
theorem scanE {R : Type} (g : Nat → Int → Option R) (n : Nat) (res : Nat → R)
    (step : ∀ j, j < n → Ev (fun k => g k ((j + 1 : Nat) : Int)) (res (j + 1)) → Ev (fun k => g k (j : Int)) (res j))
    (fin : Ev (fun k => g k (n : Int)) (res n)) : ∀ j, j ≤ n → Ev (fun k => g k (j : Int)) (res j) := by
  have main : ∀ t j, n - j = t → j ≤ n → Ev (fun k => g k (j : Int)) (res j) := by
    intro t
    induction t with
    | zero =>
      intro j h1 h2
      obtain rfl : j = n := by omega
      exact fin
    | succ t ih =>
      intro j h1 h2
      exact step j (by omega) (ih (j + 1) (by omega) (by omega))
  exact fun j hj => main _ j rfl hj

theorem all_drop {α} (l : List α) (p : α → Bool) (d : α) (j : Nat) (hj : j < l.length) : (l.drop j).all p = (p (l.getD j d) && (l.drop (j + 1)).all p) := by
  rw [List.drop_eq_getElem_cons hj, List.all_cons, List.getD_eq_getElem?_getD, List.getElem?_eq_getElem hj]
  rfl

/-- Are all of them from low to high? -/
def allIn (l : List Int) (lo hi : Int) : Bool := l.all fun x => decide (lo ≤ x) && decide (x ≤ hi)
theorem allIn_get {l : List Int} {lo hi : Int} (h : allIn l lo hi = true) (i : Nat) (hi' : i < l.length) : lo ≤ l.getD i 0 ∧ l.getD i 0 ≤ hi := by
  simp only [allIn, List.all_eq_true] at h
  have := h (l.getD i 0) (by rw [List.getD_eq_getElem?_getD, List.getElem?_eq_getElem hi']; exact List.getElem_mem hi')
  simpa using this

theorem up1 {j : Nat} (h : j < 4611686018427387904) : wrap64 ((j : Int) + 1) = ((j + 1 : Nat) : Int) := by unfold wrap64; omega

/-- The first j elements copied. -/
def mixed {α} (xs ys : List α) (j : Nat) : List α := xs.take j ++ ys.drop j
theorem mixed_length {α} (xs ys : List α) (j : Nat) (h : ys.length = xs.length) : (mixed xs ys j).length = xs.length := by simp [mixed]; omega
theorem mixed_zero {α} (xs ys : List α) : mixed xs ys 0 = ys := by simp [mixed]
theorem mixed_all {α} (xs ys : List α) (h : ys.length = xs.length) : mixed xs ys xs.length = xs := by simp [mixed, h]
theorem mixed_set {α} (xs ys : List α) (d : α) (j : Nat) (hl : ys.length = xs.length) (hj : j < xs.length) : (mixed xs ys j).set j (xs.getD j d) = mixed xs ys (j + 1) := by
  apply List.ext_getElem?
  intro i
  simp only [mixed, List.getElem?_set, List.getElem?_append, List.length_take, List.length_append, List.length_drop, List.getElem?_take, List.getElem?_drop, List.getD_eq_getElem?_getD]
  by_cases h1 : i < j
  · have : i < min j xs.length := by omega
    have h2 : i < min (j + 1) xs.length := by omega
    have h3 : i < j + 1 := by omega
    have h4 : ¬ j = i := by omega
    simp [this, h2, h1, h3, h4]
  · by_cases h2 : i = j
    · subst h2
      have h3 : i < min (i + 1) xs.length := by omega
      have h4 : i < min i xs.length + (ys.length - i) := by omega
      simp [h3, h4, List.getElem?_eq_getElem hj]
    · have h3 : ¬ i < min j xs.length := by omega
      have h4 : ¬ i < min (j + 1) xs.length := by omega
      have h5 : ¬ j = i := by omega
      simp only [h5, h3, h4, if_false]
      congr 1
      omega
theorem mixed_get_right {α} (xs ys : List α) (d : α) (j i : Nat) (hi : j ≤ i) (hj : j ≤ xs.length) : (mixed xs ys j).getD i d = ys.getD i d := by
  simp only [mixed, List.getD_eq_getElem?_getD]
  rw [List.getElem?_append_right (by simp; omega)]
  simp only [List.length_take, List.getElem?_drop]
  congr 2
  omega

/-- A list of n numbers told by a function. -/
def tab (n : Nat) (f : Nat → Int) : List Int := (List.range n).map f
theorem tab_length (n : Nat) (f : Nat → Int) : (tab n f).length = n := by simp [tab]
theorem tab_get (n : Nat) (f : Nat → Int) (i : Nat) (h : i < n) : (tab n f).getD i 0 = f i := by simp [tab, List.getD_eq_getElem?_getD, h]
theorem tab_succ (n : Nat) (f : Nat → Int) : tab (n + 1) f = tab n f ++ [f n] := by simp [tab, List.range_succ]

end Go.Proofs.Ytcdghhihfjojaab.Gen
end

section
/- Bounds: what the program's and the reference's tests of ranges answer. -/
set_option linter.unusedVariables false
set_option linter.unusedSimpArgs false
namespace Go.Proofs.Ytcdghhihfjojaab.Gen
open Go.RowKit Go.Proofs.Ytcdghhihfjojaab.Q Go.Proofs.Ytcdghhihfjojaab.Gen Go.Proofs.YtcdghhihfjojaabW.PrintWords Go.Proofs.YtcdghhihfjojaabW.PrintMore

def inS (a b c : Int) : Bool := decide (b ≤ a) && decide (a ≤ c)
theorem inS_iff (a b c : Int) : inS a b c = true ↔ b ≤ a ∧ a ≤ c := by simp [inS]
theorem l2In_s (a b c : Int) : spec_l2In.f a b c = some (inS a b c) := by
  unfold spec_l2In.f inS; by_cases h : a ≥ b <;> simp [h, show b ≤ a ↔ a ≥ b from Iff.rfl]
theorem in_s (a b c : Int) : impl_in.f a b c = some (inS a b c) := by
  unfold impl_in.f inS; by_cases h : a ≥ b <;> simp [h, show b ≤ a ↔ a ≥ b from Iff.rfl]
end Go.Proofs.Ytcdghhihfjojaab.Gen
end

section
/- The drawing of arguments out of bytes: each of these functions ends, and what it draws lies in its range; no condition. -/
set_option linter.unusedVariables false
set_option linter.unusedSimpArgs false
namespace Go.Proofs.Ytcdghhihfjojaab.Draw
open Go.RowKit Go.Proofs.Ytcdghhihfjojaab.Q Go.Proofs.Ytcdghhihfjojaab.Gen Go.Proofs.YtcdghhihfjojaabW.PrintWords Go.Proofs.YtcdghhihfjojaabW.PrintMore

/-- The bytes that are drawn from. -/
structure Src (l : List Int) : Prop where
  len : l.length ≤ 1048576
  byte : ∀ x ∈ l, 0 ≤ x ∧ x ≤ 255
/-- A place in them. -/
def At (l : List Int) (p : Int) : Prop := 0 ≤ p ∧ p ≤ l.length

theorem Src.rd_ {l : List Int} (h : Src l) (i : Int) : 0 ≤ rd l i ∧ rd l i ≤ 255 := by
  unfold rd
  rw [List.getD_eq_getElem?_getD]
  by_cases hi : i.toNat < l.length
  · rw [List.getElem?_eq_getElem hi]; exact h.byte _ (List.getElem_mem hi)
  · rw [List.getElem?_eq_none (by omega)]; decide

theorem wrap64_range (x : Int) : -9223372036854775808 ≤ wrap64 x ∧ wrap64 x ≤ 9223372036854775807 := by unfold wrap64; omega

theorem next_ok {l : List Int} (h : Src l) {p : Int} (hp : At l p) : ∃ v q, spec_l1Rd_next.f l p = some (v, q) ∧ 0 ≤ v ∧ v ≤ 255 ∧ At l q := by
  unfold At at hp
  have hl := h.len
  unfold spec_l1Rd_next.f
  by_cases c : p ≥ (l.length : Int)
  · rw [if_pos c]
    exact ⟨_, _, rfl, by omega, by omega, hp⟩
  · have hr := h.rd_ p
    rw [if_neg c, w64 (x := p + 1) (by omega) (by omega), w64 (x := p + 1 - 1) (by omega) (by omega), show p + 1 - 1 = p by omega, if_pos (by omega), if_pos (by omega), w64 (x := rd l p) (by omega) (by omega)]
    exact ⟨_, _, rfl, by omega, by omega, by unfold At; omega⟩
theorem below_ok {l : List Int} (h : Src l) {p : Int} (hp : At l p) (n : Int) (hn : 1 ≤ n) : ∃ v q, spec_l1Rd_below.f l p n = some (v, q) ∧ 0 ≤ v ∧ v < n ∧ At l q := by
  unfold spec_l1Rd_below.f
  by_cases c : n ≤ 1
  · rw [if_pos c]
    exact ⟨_, _, rfl, by omega, by omega, hp⟩
  · rw [if_neg c]
    obtain ⟨v, q, e, v0, v1, hq⟩ := next_ok h hp
    by_cases d : n ≤ 256
    · rw [if_pos d, e, Option.bind_some, if_neg (by omega)]
      exact ⟨_, _, rfl, Int.tmod_nonneg _ v0, Int.tmod_lt_of_pos _ (by omega), hq⟩
    · obtain ⟨v', q', e', v0', v1', hq'⟩ := next_ok h hq
      rw [if_neg d, e, Option.bind_some, e', Option.bind_some, if_neg (by omega), w64 (x := v * 256) (by omega) (by omega), w64 (by omega) (by omega)]
      exact ⟨_, _, rfl, Int.tmod_nonneg _ (by omega), Int.tmod_lt_of_pos _ (by omega), hq'⟩
theorem once_ok {l : List Int} (h : Src l) {p : Int} (hp : At l p) (n : Int) (hn : 1 ≤ n) : ∃ b q, spec_l1Rd_once.f l p n = some (b, q) ∧ At l q := by
  unfold spec_l1Rd_once.f
  obtain ⟨v, q, e, _, _, hq⟩ := below_ok h hp n hn
  rw [e, Option.bind_some]
  exact ⟨_, _, rfl, hq⟩
theorem word_ok {l : List Int} (h : Src l) {p : Int} (hp : At l p) : ∃ v q, Ev (fun k => spec_l1Rd_word.f k l p) (v, q) ∧ At l q := by
  simp only [spec_l1Rd_word.f]
  have main : ∀ (t : Nat) (i x p : Int), 8 - i = t → 0 ≤ i → At l p → ∃ v q, Ev (fun k => spec_l1Rd_word.l0 k x i l p) (v, q) ∧ At l q := by
    intro t
    induction t with
    | zero =>
      intro i x p h1 h2 hp
      refine ⟨x, p, Ev_succ fun k => ?_, hp⟩
      simp only [spec_l1Rd_word.l0]
      rw [if_neg (by omega)]
    | succ t ih =>
      intro i x p h1 h2 hp
      obtain ⟨v, q, e, _, _, hq⟩ := next_ok h hp
      obtain ⟨v', q', e', hq'⟩ := ih (i + 1) (Go.bits .or .u64 (IntKind.u64.wrap (x * 256)) (IntKind.u64.wrap v)) q (by omega) (by omega) hq
      refine ⟨v', q', Ev.step (fun k => ?_) e', hq'⟩
      simp only [spec_l1Rd_word.l0]
      rw [if_pos (by omega), e, Option.bind_some, w64 (by omega) (by omega)]
  exact main 8 0 0 p (by omega) (by omega) hp
theorem number_ok {l : List Int} (h : Src l) {p : Int} (hp : At l p) : ∃ v q, Ev (fun k => spec_l1Rd_number.f k l p) (v, q) ∧ (-9223372036854775808 ≤ v ∧ v ≤ 9223372036854775807) ∧ At l q := by
  simp only [spec_l1Rd_number.f]
  obtain ⟨v, q, e, v0, v1, hq⟩ := below_ok h hp 5 (by omega)
  simp only [e, Option.bind_some]
  by_cases c0 : v = 0
  · obtain ⟨u, q', e', u0, u1, hq'⟩ := below_ok h hq 300 (by omega)
    simp only [e', Option.bind_some]
    exact ⟨_, _, evPos c0 (Ev.now _), wrap64_range _, hq'⟩
  by_cases c1 : v = 1
  · obtain ⟨u, q', e', u0, u1, hq'⟩ := below_ok h hq 12 (by omega)
    simp only [e', Option.bind_some]
    refine ⟨_, _, evNeg c0 (evPos c1 (evPos u0 (evPos (by simpa using u1) (Ev.now _)))), ?_, hq'⟩
    have : u = 0 ∨ u = 1 ∨ u = 2 ∨ u = 3 ∨ u = 4 ∨ u = 5 ∨ u = 6 ∨ u = 7 ∨ u = 8 ∨ u = 9 ∨ u = 10 ∨ u = 11 := by omega
    rcases this with rfl | rfl | rfl | rfl | rfl | rfl | rfl | rfl | rfl | rfl | rfl | rfl <;> decide
  by_cases c2 : v = 2
  · obtain ⟨x, q', e', hq'⟩ := word_ok h hq
    obtain ⟨u, q2, e2, u0, u1, hq2⟩ := below_ok h hq' 60 (by omega)
    refine ⟨wrap64 (shr .u64 x (IntKind.u64.wrap (wrap64 (1 + u)))), q2, evNeg c0 (evNeg c1 (evPos c2 (Ev.bind e' ?_))), ?_, hq2⟩
    · simp only [e2, Option.bind_some]
      exact evPos (by unfold IntKind.wrap; simp [IntKind.signed, IntKind.bits]; omega) (Ev.now _)
    · exact wrap64_range _
  · obtain ⟨u, q', e', u0, u1, hq'⟩ := below_ok h hq 20 (by omega)
    simp only [e', Option.bind_some]
    exact ⟨_, _, evNeg c0 (evNeg c1 (evNeg c2 (Ev.now _))), by omega, hq'⟩

end Go.Proofs.Ytcdghhihfjojaab.Draw
end

section
/- Arguments of any shape, opened: what a datum's reading says of its cells, by kinds; no condition. -/
set_option linter.unusedVariables false
set_option linter.unusedSimpArgs false
namespace Go.Proofs.Ytcdghhihfjojaab.Opens
open Go.RowKit Go.Proofs.YtcdghhihfjojaabW.PrintWords Go.Deep

section
variable {H : Type} {enc : TypeId × Value → H} {P : Program} {w : World} {base : Nat} {spare : Nat → Bool} {held : Bool}
/-- Whatever is read as type t is told by the kind d. -/
def Opn (enc : TypeId × Value → H) (P : Program) (w : World) (base : Nat) (spare : Nat → Bool) (held : Bool) (t : TypeId) {α : Type} (d : Kd α) : Prop :=
  ∀ (fuel : Nat) (cs : List Value) (x : DataW H × List MemPlace), DataW.trod enc P w base spare held fuel t cs = some x → ∃ a : α, d.K w a cs

theorem opn_int {t : TypeId} {k : IntKind} (ht : P.underlying t = some (.int k)) : Opn enc P w base spare held t (Kd.int k) := fun fuel cs x h => by
  obtain ⟨n, rfl, _⟩ := DataW.trod_int ht h
  exact ⟨n, rfl⟩
theorem opn_bool {t : TypeId} (ht : P.underlying t = some .bool) : Opn enc P w base spare held t Kd.bool := fun fuel cs x h => by
  obtain ⟨b, rfl, _⟩ := DataW.trod_bool ht h
  exact ⟨b, rfl⟩
theorem opn_string {t : TypeId} (ht : P.underlying t = some .string) : Opn enc P w base spare held t Kd.string := fun fuel cs x h => by
  obtain ⟨s, rfl, _⟩ := DataW.trod_string ht h
  exact ⟨s, rfl⟩

theorem opn_slice {α : Type} (z : α) {d : Kd α} {t e : TypeId} (ht : P.underlying t = some (.slice e)) (hs : P.cellsOf e = d.sz) (h : Opn enc P w base spare held e d) : Opn enc P w base spare held t (Kd.slice e d) := by
  intro fuel cs x hx
  rcases open_slice ht hx with ⟨rfl, _⟩ | ⟨a, len, cap, m, n, D, Pl, rfl, _, hl, hm, hmm, _, hel⟩
  · exact ⟨[], none, 0, rfl, Nat.le_refl _, Kd.C_nil _ _⟩
  have hle : len ≤ m := by rw [hmm]; split <;> omega
  haveI : Inhabited α := ⟨z⟩
  obtain ⟨f, hf⟩ := choose_lt (α := α) (n := len) (p := fun i x => ∃ cs', w.cells? base (a.add (i * P.cellsOf e)) (P.cellsOf e) = some cs' ∧ d.K w x cs') (fun i hi => by
    obtain ⟨cs', h1, h2⟩ := hel i (by omega)
    obtain ⟨x, hk⟩ := h n cs' _ h2
    exact ⟨x, cs', h1, hk⟩)
  refine ⟨(List.range len).map f, some a, cap, by simp, by simpa using hl, ?_⟩
  refine ⟨by simp, by unfold maxLen at hm; simp; omega, fun hp => ⟨a, rfl, fun j p hj => ?_⟩⟩
  have hj' : j < len := by have := (List.getElem?_eq_some_iff.1 hj).1; simpa using this
  simp [hj'] at hj
  obtain ⟨cs', h1, h2⟩ := hf j hj'
  subst hj
  refine ⟨cs', d.K_len h2, h2, fun i u hu => ?_⟩
  obtain ⟨_, hlen, hcell⟩ := World.cells?_some h1
  have hi : i < P.cellsOf e := by have := (List.getElem?_eq_some_iff.1 hu).1; omega
  rw [← hs, ← Go.Deep.add_add, hcell i hi]
  exact hu

/-- Two in line, at a place of the cells. -/
theorem pair_at {α β : Type} {a : Kd α} {b : Kd β} {x : α} {y : β} {cs : List Value} (off s : Nat) (h0 : a.K w x ((cs.drop off).take s)) (h1 : b.K w y (cs.drop (off + s))) : (Kd.pair a b).K w (x, y) (cs.drop off) :=
  ⟨(cs.drop off).take s, (cs.drop off).drop s, (List.take_append_drop _ _).symm, h0, by rw [List.drop_drop]; exact h1⟩
theorem last_at {α : Type} {a : Kd α} {x : α} {cs : List Value} (off s : Nat) (hl : cs.length = off + s) (h0 : a.K w x ((cs.drop off).take s)) : a.K w x (cs.drop off) := by
  rwa [List.take_of_length_le (by simp; omega)] at h0
/-- A field's reading. -/
theorem field_at {α : Type} {d : Kd α} {t off s n : Nat} {cs : List Value} {y : Option (DataW H × List MemPlace)} (h : Opn enc P w base spare held t d) (hs : P.cellsOf t = s) (hy : ∃ z, y = some z)
    (hf : DataW.trod enc P w base spare held n t ((cs.drop off).take (P.cellsOf t)) = y) : ∃ a : α, d.K w a ((cs.drop off).take s) := by
  obtain ⟨z, rfl⟩ := hy
  subst hs
  exact h n _ _ hf
end

/-- A slice that came in. -/
theorem slice_in {H : Type} {enc : TypeId × Value → H} {P : Program} {w : World} {base : Nat} {spare : Nat → Bool} {held : Bool} {α : Type} {d : Kd α} {t e : TypeId} {a : Option Addr} {len cap : Nat} {D : DataW H} {p : List MemPlace}
    (h : Opn enc P w base spare held t (Kd.slice e d)) (hd : DataW.Trod enc P w base spare held t (.slice a len cap) D p) :
    ∃ l : List α, len = l.length ∧ l.length ≤ cap ∧ l.length ≤ 9223372036854775807 ∧ d.C w a l.length l := by
  obtain ⟨fuel, hf⟩ := hd
  obtain ⟨l, A, c, he, hl, hC⟩ := h fuel _ _ hf
  simp [Value.cells] at he
  obtain ⟨rfl, rfl, rfl⟩ := he
  exact ⟨l, rfl, hl, hC.2.1, hC⟩
/-- A struct that came in. -/
theorem struct_in {H : Type} {enc : TypeId × Value → H} {P : Program} {w : World} {base : Nat} {spare : Nat → Bool} {held : Bool} {α : Type} {d : Kd α} {t : TypeId} {cs : Array Value} {D : DataW H} {p : List MemPlace}
    (h : Opn enc P w base spare held t d) (hd : DataW.Trod enc P w base spare held t (.agg cs) D p) : ∃ x : α, d.K w x cs.toList := by
  obtain ⟨fuel, hf⟩ := hd
  exact h fuel _ _ hf
theorem agg_of {cs : Array Value} {l : List Value} (h : cs.toList = l) : cs = l.toArray := by rw [← h]
/-- An element of a row that is read. -/
theorem row_K {α : Type} {d : Kd α} {w : World} {A : Option Addr} {n : Nat} {xs : List α} (h : d.C w A n xs) {x : α} (hx : x ∈ xs) : ∃ cs, d.K w x cs := by
  obtain ⟨j, hj, rfl⟩ := List.mem_iff_getElem.mp hx
  obtain ⟨ad, _, hc⟩ := h.2.2 (by have := h.1; omega)
  obtain ⟨c, _, hr, _⟩ := hc j _ (List.getElem?_eq_getElem hj)
  exact ⟨c, hr⟩
end Go.Proofs.Ytcdghhihfjojaab.Opens
end

section
/- Floats among the arguments, opened; no condition. -/
set_option linter.unusedVariables false
set_option linter.unusedSimpArgs false
namespace Go.Proofs.Ytcdghhihfjojaab.Opens
open Go.RowKit Go.Proofs.YtcdghhihfjojaabW.PrintWords Go.Proofs.YtcdghhihfjojaabW.PrintFlt Go.Deep
section
variable {H : Type} {enc : TypeId × Value → H} {P : Program} {w : World} {base : Nat} {spare : Nat → Bool} {held : Bool} {t : TypeId}
theorem trod_flt {fuel : Nat} {cs : List Value} {x : DataW H × List MemPlace} {k : FloatKind} (ht : P.underlying t = some (.float k)) (h : DataW.trod enc P w base spare held fuel t cs = some x) : ∃ b, cs = [.float k b] := by
  cases fuel with
  | zero => simp [DataW.trod] at h
  | succ n =>
    unfold DataW.trod at h
    rw [ht] at h
    split at h <;> simp_all
theorem opn_float (ht : P.underlying t = some (.float .f64)) : Opn enc P w base spare held t Kd.flt := fun fuel cs x h => by
  obtain ⟨b, rfl⟩ := trod_flt ht h
  exact ⟨cn b, b, by rw [un_cn]⟩
end
end Go.Proofs.Ytcdghhihfjojaab.Opens
end

section
/- The plain statement of the law FnStormCells: in every drawn box the cells are numbered in order, touching cells alike, and a box against itself has not moved; no condition. -/
set_option linter.unusedVariables false
set_option linter.unusedSectionVars false
set_option linter.unusedSimpArgs false
namespace Go.Proofs.Ytcdghhihfjojaab.Pure
open Go.RowKit Go.Proofs.Ytcdghhihfjojaab.Q Go.Proofs.Ytcdghhihfjojaab.Gen Go.Proofs.Ytcdghhihfjojaab.Draw Go.Proofs.YtcdghhihfjojaabW.PrintWords Go.Proofs.YtcdghhihfjojaabW.PrintMore

theorem down1 {j : Nat} (h0 : 0 < j) (h : j < 4611686018427387904) : wrap64 ((j : Int) - 1) = ((j - 1 : Nat) : Int) := by unfold wrap64; omega

/-! a box that is well formed -/
theorem box_both (R C : Int) (l : List Int) (h : l.length ≤ 1048576) : ∃ b : Bool, Ev (fun k => spec_BoxOk.f k R C l) b ∧ Ev (fun k => impl_BoxOk.f k R C l) b ∧ (b = true → ∃ r c : Nat, R = r ∧ C = c ∧ 1 ≤ r ∧ r ≤ 24 ∧ 1 ≤ c ∧ c ≤ 24 ∧ l.length = r * c) := by
  simp only [spec_BoxOk.f, impl_BoxOk.f, l2In_s, in_s, Option.bind_some]
  have noS : Ev (fun k => spec_BoxOk.j0 k true R C l) false := Ev.step (fun k => spec_BoxOk.j0.eq_2 _ _ _ _ k) (evPos rfl (Ev.now _))
  have noI : Ev (fun k => impl_BoxOk.j0 k true R C l) false := Ev.step (fun k => impl_BoxOk.j0.eq_2 _ _ _ _ k) (evPos rfl (Ev.now _))
  by_cases c1 : inS R 1 24 = true
  rotate_left
  · exact ⟨false, evNeg c1 noS, evNeg c1 noI, fun h => by cases h⟩
  by_cases c2 : inS C 1 24 = true
  rotate_left
  · exact ⟨false, evPos c1 (evNeg c2 noS), evPos c1 (evNeg c2 noI), fun h => by cases h⟩
  by_cases c3 : ((l.length : Int) != wrap64 (R * C)) = true
  · exact ⟨false, evPos c1 (evPos c2 (by rw [c3]; exact noS)), evPos c1 (evPos c2 (by rw [c3]; exact noI)), fun h => by cases h⟩
  rw [Bool.not_eq_true] at c3
  have d1 := (inS_iff _ _ _).1 c1
  have d2 := (inS_iff _ _ _).1 c2
  obtain ⟨r, rfl⟩ := Int.eq_ofNat_of_zero_le (show 0 ≤ R by omega)
  obtain ⟨c, rfl⟩ := Int.eq_ofNat_of_zero_le (show 0 ≤ C by omega)
  have hrc : r * c ≤ 24 * 24 := Nat.mul_le_mul (by omega) (by omega)
  have hl : l.length = r * c := by
    rw [bne_eq_false_iff_eq, ← Int.natCast_mul, w64 (by omega) (by omega)] at c3
    omega
  have main : ∀ t j, j + t = l.length → ∃ b : Bool, Ev (fun k => spec_BoxOk.l0 k (j : Int) (r : Int) (c : Int) l) b ∧ Ev (fun k => impl_BoxOk.l0 k l (l.length : Int) (j : Int)) b := by
    intro t
    induction t with
    | zero => intro j hj; exact ⟨true, Ev.step (fun k => spec_BoxOk.l0.eq_2 _ _ _ _ k) (evNeg (by omega) (Ev.now _)), Ev.step (fun k => impl_BoxOk.l0.eq_2 _ _ _ k) (evNeg (by omega) (Ev.now _))⟩
    | succ t ih =>
      intro j hj
      obtain ⟨b, hs, hi⟩ := ih (j + 1) (by omega)
      have u := up1 (j := j) (by omega)
      replace u := Aside0.mk u
      by_cases q : inS (rd l (j : Int)) (-1000000000) 1000000000 = true
      · refine ⟨b, Ev.step (fun k => spec_BoxOk.l0.eq_2 _ _ _ _ k) (evPos (by omega) (evPos (by omega) ?_)), Ev.step (fun k => impl_BoxOk.l0.eq_2 _ _ _ k) (evPos (by omega) (evPos (by omega) (evPos (by omega) ?_)))⟩
        · simp only [l2In_s, q, Option.bind_some]
          rw [u.out]; exact evPos trivial hs
        · simp only [in_s, q, Option.bind_some]
          rw [u.out]; exact evPos trivial hi
      · rw [Bool.not_eq_true] at q
        refine ⟨false, Ev.step (fun k => spec_BoxOk.l0.eq_2 _ _ _ _ k) (evPos (by omega) (evPos (by omega) ?_)), Ev.step (fun k => impl_BoxOk.l0.eq_2 _ _ _ k) (evPos (by omega) (evPos (by omega) (evPos (by omega) ?_)))⟩
        · simp only [l2In_s, q, Option.bind_some]
          exact evNeg (by decide) (Ev.now _)
        · simp only [in_s, q, Option.bind_some]
          exact evNeg (by decide) (Ev.now _)
  obtain ⟨b, hs, hi⟩ := main l.length 0 (by omega)
  refine ⟨b, evPos c1 (evPos c2 ?_), evPos c1 (evPos c2 ?_), fun _ => ⟨r, c, rfl, rfl, by omega, by omega, by omega, by omega, hl⟩⟩
  · rw [c3]; exact Ev.step (fun k => spec_BoxOk.j0.eq_2 _ _ _ _ k) (evNeg (by decide) hs)
  · rw [c3]; exact Ev.step (fun k => impl_BoxOk.j0.eq_2 _ _ _ _ k) (evNeg (by decide) hi)

/-! how many cells have no number yet -/
def zs : List Int → Nat
  | [] => 0
  | x :: l => (if x = 0 then 1 else 0) + zs l
theorem zs_le : ∀ l : List Int, zs l ≤ l.length := by
  intro l
  induction l with
  | nil => exact Nat.le_refl _
  | cons x l ih => unfold zs; rw [List.length_cons]; split <;> omega
theorem zs_set (v : Int) (hv : v ≠ 0) : ∀ (l : List Int) (i : Nat), i < l.length → l.getD i 0 = 0 → zs (l.set i v) + 1 = zs l := by
  intro l
  induction l with
  | nil => intro i hi; simp at hi
  | cons x l ih =>
    intro i hi h
    cases i with
    | zero =>
      have hx : x = 0 := by simpa using h
      simp only [List.set_cons_zero, zs]
      rw [if_neg hv, if_pos hx]; omega
    | succ i =>
      have := ih i (by simpa using hi) (by simpa using h)
      simp only [List.set_cons_succ, zs]
      omega
theorem rd_set (l : List Int) (i : Nat) (v : Int) (j : Nat) (h : i < l.length) : rd (l.set i v) (j : Int) = if j = i then v else rd l (j : Int) := by
  rw [rd_nat, rd_nat, List.getD_eq_getElem?_getD, List.getD_eq_getElem?_getD, List.getElem?_set]
  by_cases c : i = j
  · subst c; simp [h]
  · rw [if_neg c, if_neg (fun e => c e.symm)]

section
variable (cells : List Int) (R C : Nat) (lv : Int)
/-- One cell looked at: it gets the number, and waits, where it is high and has none. -/
def push (num : Int) (st : List Int × List Int) (s : Int) : List Int × List Int := if rd st.1 s = 0 then (if rd cells s ≥ lv then (st.1.set s.toNat num, st.2 ++ [s]) else st) else st
/-- The cells beside. -/
def S (c : Nat) : List Int := (if c / C < R - 1 then [((c + C : Nat) : Int)] else []) ++ (if c % C < C - 1 then [((c + 1 : Nat) : Int)] else []) ++ (if c / C > 0 then [((c - C : Nat) : Int)] else []) ++ (if c % C > 0 then [((c - 1 : Nat) : Int)] else [])
structure Inv (n : Nat) (st : List Int × List Int) : Prop where
  len : st.1.length = n
  pos : ∀ i : Nat, 0 ≤ rd st.1 (i : Int)
  inn : ∀ s ∈ st.2, 0 ≤ s ∧ s < (n : Int)
  room : st.2.length + zs st.1 ≤ n
theorem push_inv {n : Nat} {num : Int} (hn : 0 < num) {st : List Int × List Int} {s : Int} (h : Inv n st) (h0 : 0 ≤ s) (h1 : s < (n : Int)) : Inv n (push cells lv num st s) ∧ zs (push cells lv num st s).1 ≤ zs st.1 ∧ 2 * zs (push cells lv num st s).1 + (push cells lv num st s).2.length ≤ 2 * zs st.1 + st.2.length := by
  unfold push
  by_cases c1 : rd st.1 s = 0
  rotate_left
  · rw [if_neg c1]; exact ⟨h, Nat.le_refl _, Nat.le_refl _⟩
  rw [if_pos c1]
  by_cases c2 : rd cells s ≥ lv
  rotate_left
  · rw [if_neg c2]; exact ⟨h, Nat.le_refl _, Nat.le_refl _⟩
  rw [if_pos c2]
  obtain ⟨m, rfl⟩ := Int.eq_ofNat_of_zero_le h0
  rw [Int.toNat_natCast]
  have hl := h.len
  have z := zs_set num (by omega) st.1 m (by omega) (by rw [← rd_nat]; exact c1)
  refine ⟨⟨by simpa using hl, fun i => ?_, fun s hs => ?_, ?_⟩, by show zs (st.1.set m num) ≤ zs st.1; omega, ?_⟩
  · rw [rd_set _ _ _ _ (by omega)]
    split
    · omega
    · exact h.pos i
  · rcases List.mem_append.1 hs with hs | hs
    · exact h.inn s hs
    · rw [List.mem_singleton.1 hs]; omega
  · have := h.room
    simp
    omega
  · simp
    omega
theorem fold_inv {n : Nat} {num : Int} (hn : 0 < num) : ∀ (L : List Int) (st : List Int × List Int), (∀ s ∈ L, 0 ≤ s ∧ s < (n : Int)) → Inv n st → Inv n (L.foldl (push cells lv num) st) ∧ zs (L.foldl (push cells lv num) st).1 ≤ zs st.1 ∧ 2 * zs (L.foldl (push cells lv num) st).1 + (L.foldl (push cells lv num) st).2.length ≤ 2 * zs st.1 + st.2.length := by
  intro L
  induction L with
  | nil => intro st _ h; exact ⟨h, Nat.le_refl _, Nat.le_refl _⟩
  | cons s L ih =>
    intro st hL h
    obtain ⟨h1, h2⟩ := hL s List.mem_cons_self
    obtain ⟨p1, p2, p3⟩ := push_inv cells lv hn h h1 h2
    obtain ⟨q1, q2, q3⟩ := ih (push cells lv num st s) (fun s hs => hL s (List.mem_cons_of_mem _ hs)) p1
    exact ⟨q1, Nat.le_trans q2 p2, Nat.le_trans q3 p3⟩
end

theorem place {R C c : Nat} (hC : 1 ≤ C) (hc : c < R * C) : c / C < R ∧ c % C < C ∧ c = (c / C) * C + c % C ∧ ((c / C < R - 1) → c + C < R * C) := by
  have h1 : c / C < R := Nat.div_lt_of_lt_mul (by rw [Nat.mul_comm]; exact hc)
  have h2 := Nat.mod_lt c hC
  have h3 := Nat.div_add_mod c C
  rw [Nat.mul_comm] at h3
  refine ⟨h1, h2, h3.symm, fun h => ?_⟩
  generalize c / C = q at h h1 h3
  have h4 := Nat.mul_le_mul_right C (show q + 1 + 1 ≤ R by omega)
  rw [Nat.add_mul, Nat.add_mul] at h4
  omega

section
variable {cells : List Int} {R C : Nat} (hR1 : 1 ≤ R) (hR : R ≤ 24) (hC1 : 1 ≤ C) (hC : C ≤ 24) (hn : cells.length = R * C) (lv : Int)
include hR1 hR hC1 hC hn
theorem nle : R * C ≤ 576 := Nat.mul_le_mul hR hC
theorem S_in {c : Nat} (hc : c < R * C) : ∀ s ∈ S R C c, 0 ≤ s ∧ s < ((R * C : Nat) : Int) := by
  obtain ⟨p1, p2, p3, p4⟩ := place hC1 hc
  intro s hs
  unfold S at hs
  have hpos : c / C > 0 → C ≤ c := fun h => by
    have := Nat.mul_le_mul_right C (show 1 ≤ c / C by omega)
    omega
  simp only [List.mem_append] at hs
  have hm : c % C < C - 1 → c + 1 < R * C := fun h => by
    have h4 := Nat.mul_le_mul_right C (show c / C + 1 ≤ R by omega)
    rw [Nat.add_mul] at h4
    omega
  rcases hs with ((hs | hs) | hs) | hs
  · split at hs
    · rename_i q; have := p4 q; simp at hs; omega
    · simp at hs
  · split at hs
    · rename_i q; have := hm q; simp at hs; omega
    · simp at hs
  · split at hs
    · rename_i q; have := hpos q; simp at hs; omega
    · simp at hs
  · split at hs
    · rename_i q; simp at hs; have : c % C ≤ c := Nat.mod_le _ _; omega
    · simp at hs

theorem high_in (i j : Nat) (hi : i < R) (hj : j < C) : impl_Box_high.f (R : Int) (C : Int) cells (i : Int) (j : Int) lv = some (decide (rd cells ((i * C + j : Nat) : Int) ≥ lv)) := by
  have hb := nle hR1 hR hC1 hC hn
  have h4 := Nat.mul_le_mul_right C (show i + 1 ≤ R by omega)
  rw [Nat.add_mul] at h4
  simp only [impl_Box_high.f, in_s, Option.bind_some]
  rw [down1 (by omega) (by omega), down1 (by omega) (by omega), ← Int.natCast_mul]
  generalize i * C = p at h4 ⊢
  rw [if_pos ((inS_iff _ _ _).2 (by omega)), if_pos ((inS_iff _ _ _).2 (by omega)), w64 (x := (p : Int)) (by omega) (by omega), w64 (by omega) (by omega), show (p : Int) + (j : Int) = ((p + j : Nat) : Int) by omega, if_pos (by omega), if_pos (by omega)]
theorem high_out (y x : Int) (h : ¬ (0 ≤ y ∧ y ≤ (R : Int) - 1 ∧ 0 ≤ x ∧ x ≤ (C : Int) - 1)) : impl_Box_high.f (R : Int) (C : Int) cells y x lv = some false := by
  simp only [impl_Box_high.f, in_s, Option.bind_some]
  rw [down1 (by omega) (by omega), down1 (by omega) (by omega)]
  by_cases c1 : inS y 0 ((R - 1 : Nat) : Int) = true
  · rw [if_pos c1, if_neg]
    intro c2
    rw [inS_iff] at c1 c2
    omega
  · rw [if_neg c1]

def dirs : List S60 := [(⟨1, 0⟩ : S60), (⟨0, 1⟩ : S60), (⟨(-1), 0⟩ : S60), (⟨0, (-1)⟩ : S60)]
theorem dir_in (num : Int) (n k0 : Int) (i j : Nat) (hi : i < 24) (hj : j < 24) (st : List Int × List Int) (hI : Inv (R * C) st) (X : List Int) (t : Nat) (ht : t < 4) (d0 d1 : Int) (hd : rd_T60 dirs (t : Int) = ⟨d0, d1⟩) (hd0 : -1 ≤ d0 ∧ d0 ≤ 1) (hd1 : -1 ≤ d1 ∧ d1 ≤ 1) (i' j' : Nat) (hi' : (i : Int) + d0 = (i' : Int)) (hj' : (j : Int) + d1 = (j' : Int)) (hi2 : i' < R) (hj2 : j' < C)
    (h : Ev (fun k => impl_Cells.l2 k lv (push cells lv num st ((i' * C + j' : Nat) : Int)).1 num (push cells lv num st ((i' * C + j' : Nat) : Int)).2 (i : Int) (j : Int) n k0 dirs 4 ((t + 1 : Nat) : Int) (R : Int) (C : Int) cells) X) : Ev (fun k => impl_Cells.l2 k lv st.1 num st.2 (i : Int) (j : Int) n k0 dirs 4 (t : Int) (R : Int) (C : Int) cells) X := by
  have hb := nle hR1 hR hC1 hC hn
  have hl := hI.len
  have hr := hI.room
  have hz := zs_le st.1
  have H := high_in hR1 hR hC1 hC hn lv i' j' hi2 hj2
  have h4 := Nat.mul_le_mul_right C (show i' + 1 ≤ R by omega)
  rw [Nat.add_mul] at h4
  have u := up1 (j := t) (by omega)
  replace u := Aside0.mk u
  have a1 : Aside0 (wrap64 ((i : Int) + d0) = (i' : Int)) := ⟨by rw [hi', w64 (by omega) (by omega)]⟩
  have a2 : Aside0 (wrap64 ((j : Int) + d1) = (j' : Int)) := ⟨by rw [hj', w64 (by omega) (by omega)]⟩
  have a3 : Aside0 (wrap64 (wrap64 ((i' : Int) * (C : Int)) + (j' : Int)) = ((i' * C + j' : Nat) : Int)) := ⟨by
    rw [← Int.natCast_mul]
    generalize i' * C = p at h4
    rw [w64 (x := (p : Int)) (by omega) (by omega), w64 (by omega) (by omega)]; omega⟩
  refine Ev.step (fun k => impl_Cells.l2.eq_2 _ _ _ _ _ _ _ _ _ _ _ _ _ _ k) (evPos (by omega) (evPos (by omega) (evPos (by simp [dirs]; omega) ?_)))
  rw [hd]
  dsimp only
  rw [a1.out, a2.out, u.out, a3.out, H]
  simp only [Option.bind_some]
  unfold push at h
  by_cases c2 : rd cells ((i' * C + j' : Nat) : Int) ≥ lv
  · refine evPos (decide_eq_true c2) (evPos (by omega) (evPos (by omega) ?_))
    rw [if_pos c2] at h
    by_cases c1 : rd st.1 ((i' * C + j' : Nat) : Int) = 0
    · rw [if_pos c1] at h
      exact evPos c1 (evPos (by omega) h)
    · rw [if_neg c1] at h
      exact evNeg c1 h
  · refine evNeg (by rw [decide_eq_false c2]; decide) ?_
    rw [if_neg c2] at h
    by_cases c1 : rd st.1 ((i' * C + j' : Nat) : Int) = 0
    · rw [if_pos c1] at h; exact h
    · rw [if_neg c1] at h; exact h
theorem dir_out (num : Int) (n k0 : Int) (i j : Nat) (hi : i < 24) (hj : j < 24) (st : List Int × List Int) (X : List Int) (t : Nat) (ht : t < 4) (d0 d1 : Int) (hd : rd_T60 dirs (t : Int) = ⟨d0, d1⟩) (hd0 : -1 ≤ d0 ∧ d0 ≤ 1) (hd1 : -1 ≤ d1 ∧ d1 ≤ 1) (ho : ¬ (0 ≤ (i : Int) + d0 ∧ (i : Int) + d0 ≤ (R : Int) - 1 ∧ 0 ≤ (j : Int) + d1 ∧ (j : Int) + d1 ≤ (C : Int) - 1))
    (h : Ev (fun k => impl_Cells.l2 k lv st.1 num st.2 (i : Int) (j : Int) n k0 dirs 4 ((t + 1 : Nat) : Int) (R : Int) (C : Int) cells) X) : Ev (fun k => impl_Cells.l2 k lv st.1 num st.2 (i : Int) (j : Int) n k0 dirs 4 (t : Int) (R : Int) (C : Int) cells) X := by
  have H := high_out hR1 hR hC1 hC hn lv _ _ ho
  have u := up1 (j := t) (by omega)
  replace u := Aside0.mk u
  have a1 : Aside0 (wrap64 ((i : Int) + d0) = (i : Int) + d0) := ⟨w64 (by omega) (by omega)⟩
  have a2 : Aside0 (wrap64 ((j : Int) + d1) = (j : Int) + d1) := ⟨w64 (by omega) (by omega)⟩
  refine Ev.step (fun k => impl_Cells.l2.eq_2 _ _ _ _ _ _ _ _ _ _ _ _ _ _ k) (evPos (by omega) (evPos (by omega) (evPos (by simp [dirs]; omega) ?_)))
  rw [hd]
  dsimp only
  rw [a1.out, a2.out, u.out, H]
  simp only [Option.bind_some]
  exact evNeg (by decide) h

theorem four_dirs (num : Int) (hnum : 0 < num) (n k0 : Int) {c : Nat} (hc : c < R * C) (st : List Int × List Int) (hI : Inv (R * C) st) (X : List Int) (h : Ev (fun k => impl_Cells.l1 k lv ((S R C c).foldl (push cells lv num) st).1 num ((S R C c).foldl (push cells lv num) st).2 n k0 (R : Int) (C : Int) cells) X) :
    Ev (fun k => impl_Cells.l2 k lv st.1 num st.2 ((c / C : Nat) : Int) ((c % C : Nat) : Int) n k0 dirs 4 0 (R : Int) (C : Int) cells) X := by
  obtain ⟨p1, p2, p3, p4⟩ := place hC1 hc
  have hS := S_in hR1 hR hC1 hC hn hc
  have hpos : c / C > 0 → C ≤ c := fun h => by
    have := Nat.mul_le_mul_right C (show 1 ≤ c / C by omega)
    omega
  have hmod : c % C ≤ c := Nat.mod_le _ _
  unfold S at h hS
  rw [List.foldl_append, List.foldl_append, List.foldl_append] at h
  have hS' : ∀ s, (s ∈ (if c / C < R - 1 then [((c + C : Nat) : Int)] else []) ∨ s ∈ (if c % C < C - 1 then [((c + 1 : Nat) : Int)] else []) ∨ s ∈ (if c / C > 0 then [((c - C : Nat) : Int)] else []) ∨ s ∈ (if c % C > 0 then [((c - 1 : Nat) : Int)] else [])) → 0 ≤ s ∧ s < ((R * C : Nat) : Int) := by
    intro s hs
    apply hS
    simp only [List.mem_append, or_assoc]
    exact hs
  clear hS
  generalize hi : c / C = i at *
  generalize hj : c % C = j at *
  -- the states between
  generalize g1 : (if i < R - 1 then [((c + C : Nat) : Int)] else []) = L1 at *
  generalize g2 : (if j < C - 1 then [((c + 1 : Nat) : Int)] else []) = L2 at *
  generalize g3 : (if i > 0 then [((c - C : Nat) : Int)] else []) = L3 at *
  generalize g4 : (if j > 0 then [((c - 1 : Nat) : Int)] else []) = L4 at *
  obtain ⟨I1, _, _⟩ := fold_inv cells lv hnum L1 st (fun s hs => hS' s (.inl hs)) hI
  obtain ⟨I2, _, _⟩ := fold_inv cells lv hnum L2 _ (fun s hs => hS' s (.inr (.inl hs))) I1
  obtain ⟨I3, _, _⟩ := fold_inv cells lv hnum L3 _ (fun s hs => hS' s (.inr (.inr (.inl hs)))) I2
  generalize e1 : L1.foldl (push cells lv num) st = s1 at *
  generalize e2 : L2.foldl (push cells lv num) s1 = s2 at *
  generalize e3 : L3.foldl (push cells lv num) s2 = s3 at *
  generalize e4 : L4.foldl (push cells lv num) s3 = s4 at *
  have fin : Ev (fun k => impl_Cells.l2 k lv s4.1 num s4.2 (i : Int) (j : Int) n k0 dirs 4 ((3 + 1 : Nat) : Int) (R : Int) (C : Int) cells) X := Ev.step (fun k => impl_Cells.l2.eq_2 _ _ _ _ _ _ _ _ _ _ _ _ _ _ k) (evNeg (by decide) h)
  have D3 : Ev (fun k => impl_Cells.l2 k lv s3.1 num s3.2 (i : Int) (j : Int) n k0 dirs 4 ((3 : Nat) : Int) (R : Int) (C : Int) cells) X := by
    by_cases q : j > 0
    · rw [if_pos q] at g4
      refine dir_in hR1 hR hC1 hC hn lv num n k0 i j (by omega) (by omega) s3 I3 X 3 (by omega) 0 (-1) rfl (by omega) (by omega) i (j - 1) (by omega) (by omega) p1 (by omega) ?_
      have e : ((i * C + (j - 1) : Nat) : Int) = ((c - 1 : Nat) : Int) := by omega
      rw [e]
      rw [← g4] at e4
      rw [show push cells lv num s3 ((c - 1 : Nat) : Int) = s4 from e4]
      exact fin
    · rw [if_neg q] at g4
      rw [← g4] at e4
      rw [show s3 = s4 from e4]
      exact dir_out hR1 hR hC1 hC hn lv num n k0 i j (by omega) (by omega) s4 X 3 (by omega) 0 (-1) rfl (by omega) (by omega) (by omega) fin
  have D2 : Ev (fun k => impl_Cells.l2 k lv s2.1 num s2.2 (i : Int) (j : Int) n k0 dirs 4 ((2 : Nat) : Int) (R : Int) (C : Int) cells) X := by
    by_cases q : i > 0
    · rw [if_pos q] at g3
      refine dir_in hR1 hR hC1 hC hn lv num n k0 i j (by omega) (by omega) s2 I2 X 2 (by omega) (-1) 0 rfl (by omega) (by omega) (i - 1) j (by omega) (by omega) (by omega) p2 ?_
      have e : (((i - 1) * C + j : Nat) : Int) = ((c - C : Nat) : Int) := by
        obtain ⟨m, rfl⟩ : ∃ m, i = m + 1 := ⟨i - 1, by omega⟩
        rw [Nat.add_sub_cancel]
        rw [Nat.succ_mul] at p3
        omega
      rw [e]
      rw [← g3] at e3
      rw [show push cells lv num s2 ((c - C : Nat) : Int) = s3 from e3]
      exact D3
    · rw [if_neg q] at g3
      rw [← g3] at e3
      rw [show s2 = s3 from e3]
      exact dir_out hR1 hR hC1 hC hn lv num n k0 i j (by omega) (by omega) s3 X 2 (by omega) (-1) 0 rfl (by omega) (by omega) (by omega) D3
  have D1 : Ev (fun k => impl_Cells.l2 k lv s1.1 num s1.2 (i : Int) (j : Int) n k0 dirs 4 ((1 : Nat) : Int) (R : Int) (C : Int) cells) X := by
    by_cases q : j < C - 1
    · rw [if_pos q] at g2
      refine dir_in hR1 hR hC1 hC hn lv num n k0 i j (by omega) (by omega) s1 I1 X 1 (by omega) 0 1 rfl (by omega) (by omega) i (j + 1) (by omega) (by omega) p1 (by omega) ?_
      have e : ((i * C + (j + 1) : Nat) : Int) = ((c + 1 : Nat) : Int) := by omega
      rw [e]
      rw [← g2] at e2
      rw [show push cells lv num s1 ((c + 1 : Nat) : Int) = s2 from e2]
      exact D2
    · rw [if_neg q] at g2
      rw [← g2] at e2
      rw [show s1 = s2 from e2]
      exact dir_out hR1 hR hC1 hC hn lv num n k0 i j (by omega) (by omega) s2 X 1 (by omega) 0 1 rfl (by omega) (by omega) (by omega) D2
  by_cases q : i < R - 1
  · rw [if_pos q] at g1
    refine dir_in hR1 hR hC1 hC hn lv num n k0 i j (by omega) (by omega) st hI X 0 (by omega) 1 0 rfl (by omega) (by omega) (i + 1) j (by omega) (by omega) (by omega) p2 ?_
    have e : (((i + 1) * C + j : Nat) : Int) = ((c + C : Nat) : Int) := by
      rw [Nat.succ_mul]
      omega
    rw [e]
    rw [← g1] at e1
    rw [show push cells lv num st ((c + C : Nat) : Int) = s1 from e1]
    exact D1
  · rw [if_neg q] at g1
    rw [← g1] at e1
    rw [show st = s1 from e1]
    exact dir_out hR1 hR hC1 hC hn lv num n k0 i j (by omega) (by omega) s1 X 0 (by omega) 1 0 rfl (by omega) (by omega) (by omega) D1

/-! what the numbering is like -/
theorem mem_S {c s : Nat} (hc : c < R * C) : (s : Int) ∈ S R C c ↔ (c / C < R - 1 ∧ s = c + C) ∨ (c % C < C - 1 ∧ s = c + 1) ∨ (c / C > 0 ∧ s + C = c) ∨ (c % C > 0 ∧ s + 1 = c) := by
  have hpos : c / C > 0 → C ≤ c := fun h => by
    have := Nat.mul_le_mul_right C (show 1 ≤ c / C by omega)
    have h3 := Nat.div_add_mod c C
    rw [Nat.mul_comm] at h3
    omega
  have hmod : c % C ≤ c := Nat.mod_le _ _
  unfold S
  simp only [List.mem_append]
  generalize c / C = q at hpos
  generalize c % C = m at hmod
  by_cases h1 : q < R - 1 <;> by_cases h2 : m < C - 1 <;> by_cases h3 : q > 0 <;> by_cases h4 : m > 0 <;> simp [h1, h2, h3, h4] <;> first | done | (have := hpos; omega)
theorem S_symm {c s : Nat} (hc : c < R * C) (hs : s < R * C) (h : (s : Int) ∈ S R C c) : (c : Int) ∈ S R C s := by
  have hp := place hC1 hc
  have hq := place hC1 hs
  have one : ∀ a : Nat, a % C + 1 < C → (a + 1) / C = a / C ∧ (a + 1) % C = a % C + 1 := by
    intro a ha
    have h3 := Nat.div_add_mod a C
    have e : a + 1 = C * (a / C) + (a % C + 1) := by omega
    have d := Nat.mul_add_div (show 0 < C by omega) (a / C) (a % C + 1)
    have m := Nat.mul_add_mod C (a / C) (a % C + 1)
    rw [← e, Nat.div_eq_of_lt ha] at d
    rw [← e, Nat.mod_eq_of_lt ha] at m
    exact ⟨by omega, m⟩
  rw [mem_S hR1 hR hC1 hC hn hs]
  rcases (mem_S hR1 hR hC1 hC hn hc).1 h with ⟨h1, e⟩ | ⟨h1, e⟩ | ⟨h1, e⟩ | ⟨h1, e⟩
  · subst e
    have d := Nat.add_div_right c (show 0 < C by omega)
    exact .inr (.inr (.inl ⟨by rw [d]; exact Nat.succ_pos _, rfl⟩))
  · subst e
    have d := (one c (Nat.add_lt_of_lt_sub h1)).2
    exact .inr (.inr (.inr ⟨by rw [d]; exact Nat.succ_pos _, rfl⟩))
  · subst e
    have d := Nat.add_div_right s (show 0 < C by omega)
    have hp1 := hp.1
    rw [d] at hp1
    exact .inl ⟨Nat.lt_sub_of_add_lt hp1, rfl⟩
  · subst e
    by_cases g : s % C < C - 1
    · exact .inr (.inl ⟨g, rfl⟩)
    · have e3 := Nat.div_add_mod s C
      have e4 : s + 1 = C * (s / C) + C := by omega
      rw [e4, Nat.mul_add_mod, Nat.mod_self] at h1
      omega

/-- Later: more cells have a number, all new ones the present number. -/
structure Ext (cells : List Int) (lv num : Int) (st st' : List Int × List Int) : Prop where
  len : st'.1.length = st.1.length
  keep : ∀ i : Nat, rd st.1 (i : Int) ≠ 0 → rd st'.1 (i : Int) = rd st.1 (i : Int)
  new : ∀ i : Nat, rd st.1 (i : Int) = 0 → rd st'.1 (i : Int) ≠ 0 → rd st'.1 (i : Int) = num ∧ (i : Int) ∈ st'.2 ∧ rd cells (i : Int) ≥ lv
  todo : ∀ i : Nat, (i : Int) ∈ st.2 → (i : Int) ∈ st'.2
  back : ∀ i : Nat, (i : Int) ∈ st'.2 → (i : Int) ∈ st.2 ∨ rd st'.1 (i : Int) = num
omit hR1 hR hC1 hC hn in
theorem Ext.refl (num : Int) (st : List Int × List Int) : Ext cells lv num st st := ⟨rfl, fun _ _ => rfl, fun i h0 h1 => absurd h0 h1, fun _ h => h, fun _ h => .inl h⟩
omit hR1 hR hC1 hC hn in
theorem Ext.trans {num : Int} (h0 : num ≠ 0) {a b c : List Int × List Int} (h : Ext cells lv num a b) (g : Ext cells lv num b c) : Ext cells lv num a c := by
  refine ⟨g.len.trans h.len, fun i hi => ?_, fun i h1 h2 => ?_, fun i hi => g.todo i (h.todo i hi), fun i hi => ?_⟩
  · have e := h.keep i hi
    rw [g.keep i (by rw [e]; exact hi), e]
  · by_cases c1 : rd b.1 (i : Int) = 0
    · exact g.new i c1 h2
    · obtain ⟨n1, n2, n3⟩ := h.new i h1 c1
      exact ⟨by rw [g.keep i c1]; exact n1, g.todo i n2, n3⟩
  · rcases g.back i hi with h1 | h1
    · rcases h.back i h1 with h2 | h2
      · exact .inl h2
      · exact .inr (by rw [g.keep i (by rw [h2]; exact h0)]; exact h2)
    · exact .inr h1
omit hR1 hR hC1 hC hn in
theorem push_ext {num : Int} (h0 : num ≠ 0) (st : List Int × List Int) (m : Nat) (hm : m < st.1.length) : Ext cells lv num st (push cells lv num st (m : Int)) ∧ (rd cells (m : Int) ≥ lv → rd (push cells lv num st (m : Int)).1 (m : Int) ≠ 0) := by
  unfold push
  by_cases c1 : rd st.1 (m : Int) = 0
  rotate_left
  · rw [if_neg c1]; exact ⟨Ext.refl lv num st, fun _ => c1⟩
  rw [if_pos c1]
  by_cases c2 : rd cells (m : Int) ≥ lv
  rotate_left
  · rw [if_neg c2]; exact ⟨Ext.refl lv num st, fun h => absurd h c2⟩
  rw [if_pos c2, Int.toNat_natCast]
  have R := fun i => rd_set st.1 m num i hm
  refine ⟨⟨by simp, fun i hi => ?_, fun i h1 h2 => ?_, fun i hi => List.mem_append_left _ hi, fun i hi => ?_⟩, fun _ => ?_⟩
  · show rd (st.1.set m num) (i : Int) = _
    rw [R, if_neg (fun e => by subst e; exact hi c1)]
  · change rd (st.1.set m num) (i : Int) ≠ 0 at h2
    rw [R] at h2
    by_cases e : i = m
    · subst e
      refine ⟨by show rd (st.1.set i num) (i : Int) = num; rw [R, if_pos rfl], by simp, c2⟩
    · rw [if_neg e] at h2; exact absurd h1 h2
  · rcases List.mem_append.1 hi with h | h
    · exact .inl h
    · have e : i = m := by have := List.mem_singleton.1 h; omega
      subst e
      exact .inr (by show rd (st.1.set i num) (i : Int) = num; rw [R, if_pos rfl])
  · show rd (st.1.set m num) (m : Int) ≠ 0
    rw [R, if_pos rfl]; exact h0
omit hR1 hR hC1 hC hn in
theorem fold_ext {num : Int} (h0 : num ≠ 0) : ∀ (L : List Int) (st : List Int × List Int), (∀ s ∈ L, 0 ≤ s ∧ s < (st.1.length : Int)) → Ext cells lv num st (L.foldl (push cells lv num) st) ∧ ∀ i : Nat, (i : Int) ∈ L → rd cells (i : Int) ≥ lv → rd (L.foldl (push cells lv num) st).1 (i : Int) ≠ 0 := by
  intro L
  induction L with
  | nil => intro st _; exact ⟨Ext.refl lv num st, fun i hi => by simp at hi⟩
  | cons s L ih =>
    intro st hL
    obtain ⟨a0, a1⟩ := hL s List.mem_cons_self
    obtain ⟨m, rfl⟩ := Int.eq_ofNat_of_zero_le a0
    obtain ⟨p1, p2⟩ := push_ext (cells := cells) lv h0 st m (by omega)
    obtain ⟨q1, q2⟩ := ih (push cells lv num st (m : Int)) (fun s hs => by rw [p1.len]; exact hL s (List.mem_cons_of_mem _ hs))
    refine ⟨Ext.trans lv h0 p1 q1, fun i hi hh => ?_⟩
    rcases List.mem_cons.1 hi with h | h
    · have e : i = m := by omega
      subst e
      have := p2 hh
      show rd (L.foldl (push cells lv num) (push cells lv num st (i : Int))).1 (i : Int) ≠ 0
      rw [q1.keep i this]
      exact this
    · exact q2 i h hh

structure Ok (cells : List Int) (R C : Nat) (lv num : Int) (todo out : List Int) : Prop where
  high : ∀ i : Nat, rd out (i : Int) ≠ 0 → rd cells (i : Int) ≥ lv
  le : ∀ i : Nat, rd out (i : Int) ≤ num
  closed : ∀ i : Nat, i < R * C → rd out (i : Int) ≠ 0 → (i : Int) ∉ todo → ∀ s : Nat, s < R * C → (s : Int) ∈ S R C i → rd cells (s : Int) ≥ lv → rd out (s : Int) = rd out (i : Int)
  pend : ∀ i : Nat, (i : Int) ∈ todo → rd out (i : Int) = num
  ord : ∀ i : Nat, 1 < rd out (i : Int) → ∃ i' : Nat, i' < i ∧ rd out (i' : Int) = rd out (i : Int) - 1
/-- What the numbering answers. -/
structure Res (cells : List Int) (R C : Nat) (lv : Int) (r : List Int) : Prop where
  len : r.length = R * C
  rng : ∀ i : Nat, 0 ≤ rd r (i : Int) ∧ rd r (i : Int) ≤ 576
  high : ∀ i : Nat, i < R * C → (rd r (i : Int) ≠ 0 ↔ rd cells (i : Int) ≥ lv)
  same : ∀ i : Nat, i < R * C → rd r (i : Int) ≠ 0 → ∀ s : Nat, s < R * C → (s : Int) ∈ S R C i → rd r (s : Int) ≠ 0 → rd r (s : Int) = rd r (i : Int)
  ord : ∀ i : Nat, 1 < rd r (i : Int) → ∃ i' : Nat, i' < i ∧ rd r (i' : Int) = rd r (i : Int) - 1
theorem ok_step {num : Int} (h0 : 0 < num) {c : Nat} (hc : c < R * C) {rest out : List Int} (hI : Inv (R * C) (out, (c : Int) :: rest)) (h : Ok cells R C lv num ((c : Int) :: rest) out) (hk : ∀ i : Nat, i < c → True) :
    Ext cells lv num (out, rest) ((S R C c).foldl (push cells lv num) (out, rest)) ∧ ∀ (k0 : Nat) (hd : ∀ i : Nat, i ≤ k0 → rd cells (i : Int) ≥ lv → i < R * C → rd out (i : Int) ≠ 0) (hl : 1 < num → ∃ i' : Nat, i' < k0 ∧ rd out (i' : Int) = num - 1), Ok cells R C lv num ((S R C c).foldl (push cells lv num) (out, rest)).2 ((S R C c).foldl (push cells lv num) (out, rest)).1 := by
  have hlen : out.length = R * C := hI.len
  obtain ⟨E, F⟩ := fold_ext (cells := cells) lv (num := num) (by omega) (S R C c) (out, rest) (fun s hs => by rw [show (out, rest).1.length = R * C from hlen]; exact S_in hR1 hR hC1 hC hn hc s hs)
  refine ⟨E, fun k0 hd hl => ?_⟩
  generalize hst : (S R C c).foldl (push cells lv num) (out, rest) = st at E F
  obtain ⟨out', todo'⟩ := st
  have Elen := E.len
  have Ekeep := E.keep
  have Enew := E.new
  have Etodo := E.todo
  have Eback := E.back
  dsimp only at Elen Ekeep Enew Etodo Eback F ⊢
  have hcc : rd out (c : Int) = num := h.pend c List.mem_cons_self
  have inN : ∀ i : Nat, rd out' (i : Int) ≠ 0 → i < R * C := fun i hi => by
    rcases Nat.lt_or_ge i (R * C) with g | g
    · exact g
    · exfalso; apply hi
      rw [rd_nat, List.getD_eq_getElem?_getD, List.getElem?_eq_none (by omega)]; rfl
  refine ⟨fun i hi => ?_, fun i => ?_, fun i hi hi0 hnt s hs hsS hsH => ?_, fun i hi => ?_, fun i hi => ?_⟩
  · by_cases e : rd out (i : Int) = 0
    · exact (Enew i e hi).2.2
    · exact h.high i e
  · by_cases e : rd out (i : Int) = 0
    · by_cases e' : rd out' (i : Int) = 0
      · omega
      · have := (Enew i e e').1; omega
    · rw [Ekeep i e]; exact h.le i
  · have io : rd out (i : Int) ≠ 0 := fun e => hnt (Enew i e hi0).2.1
    have hnr : (i : Int) ∉ rest := fun g => hnt (Etodo i g)
    by_cases ec : i = c
    · subst ec
      have s1 := F s hsS hsH
      rw [Ekeep i io, hcc]
      by_cases e : rd out (s : Int) = 0
      · exact (Enew s e s1).1
      · rw [Ekeep s e]
        by_cases g : (s : Int) ∈ ((i : Int) :: rest)
        · exact h.pend s g
        · have := h.closed s hs e g i hi (S_symm hR1 hR hC1 hC hn hi hs hsS) (h.high i io)
          rw [← this]; exact hcc
    · have g : (i : Int) ∉ ((c : Int) :: rest) := fun g => by
        rcases List.mem_cons.1 g with g | g
        · exact ec (by omega)
        · exact hnr g
      have e := h.closed i hi io g s hs hsS hsH
      rw [Ekeep i io, Ekeep s (by rw [e]; exact io)]
      exact e
  · rcases Eback i hi with g | g
    · have e := h.pend i (List.mem_cons_of_mem _ g)
      rw [Ekeep i (by rw [e]; omega)]; exact e
    · exact g
  · by_cases e : rd out (i : Int) = 0
    · obtain ⟨n1, n2, n3⟩ := Enew i e (by omega)
      have hN := inN i (by omega)
      have ik : k0 < i := by
        rcases Nat.lt_or_ge k0 i with g | g
        · exact g
        · exact absurd e (hd i g n3 hN)
      obtain ⟨i', h1, h2⟩ := hl (by omega)
      exact ⟨i', by omega, by rw [Ekeep i' (by omega), h2, n1]⟩
    · rw [Ekeep i e] at hi ⊢
      obtain ⟨i', h1, h2⟩ := h.ord i hi
      exact ⟨i', h1, by rw [Ekeep i' (by omega)]; exact h2⟩

theorem bfsR (x7 : Nat) (hx : x7 + 1 ≤ 576) (k0 : Nat) (hk : k0 < R * C) (n : Int) (z0 : Nat)
    (cont : ∀ out : List Int, Inv (R * C) (out, []) → zs out ≤ z0 → Ok cells R C lv ((x7 + 1 : Nat) : Int) [] out → (∀ i : Nat, i ≤ k0 → rd cells (i : Int) ≥ lv → i < R * C → rd out (i : Int) ≠ 0) → rd out (k0 : Int) = ((x7 + 1 : Nat) : Int) → ∃ r : List Int, Ev (fun k => impl_Cells.l0 k lv out ((x7 + 1 : Nat) : Int) n ((k0 + 1 : Nat) : Int) (R : Int) (C : Int) cells) r ∧ Res cells R C lv r) :
    ∀ (m : Nat) (st : List Int × List Int), 2 * zs st.1 + st.2.length = m → Inv (R * C) st → zs st.1 ≤ z0 → Ok cells R C lv ((x7 + 1 : Nat) : Int) st.2 st.1 → (∀ i : Nat, i ≤ k0 → rd cells (i : Int) ≥ lv → i < R * C → rd st.1 (i : Int) ≠ 0) → rd st.1 (k0 : Int) = ((x7 + 1 : Nat) : Int) → (1 ≤ x7 → ∃ i' : Nat, i' < k0 ∧ rd st.1 (i' : Int) = (x7 : Int)) → ∃ r : List Int, Ev (fun k => impl_Cells.l1 k lv st.1 ((x7 + 1 : Nat) : Int) st.2 n (k0 : Int) (R : Int) (C : Int) cells) r ∧ Res cells R C lv r := by
  have hb := nle hR1 hR hC1 hC hn
  intro m
  induction m using Nat.strongRecOn with
  | _ m ih =>
  intro st hm hI hz hO hd hk0 hla
  obtain ⟨out, todo⟩ := st
  cases todo with
  | nil =>
    obtain ⟨r, hi, hr⟩ := cont out hI hz hO hd hk0
    have u := up1 (j := k0) (by omega)
    replace u := Aside0.mk u
    refine ⟨r, Ev.step (fun k => impl_Cells.l1.eq_2 _ _ _ _ _ _ _ _ _ k) (evNeg (by simp) ?_), hr⟩
    rw [u.out]; exact hi
  | cons c rest =>
    obtain ⟨c0, c1⟩ := hI.inn c List.mem_cons_self
    obtain ⟨c, rfl⟩ := Int.eq_ofNat_of_zero_le c0
    have hc : c < R * C := by omega
    have hI' : Inv (R * C) (out, rest) := ⟨hI.len, hI.pos, fun s hs => hI.inn s (List.mem_cons_of_mem _ hs), by have := hI.room; simp at this ⊢; omega⟩
    have hnum : (0 : Int) < ((x7 + 1 : Nat) : Int) := by omega
    obtain ⟨q1, q2, q3⟩ := fold_inv cells lv hnum (S R C c) (out, rest) (S_in hR1 hR hC1 hC hn hc) hI'
    obtain ⟨E, G⟩ := ok_step hR1 hR hC1 hC hn lv hnum hc hI hO (fun _ _ => trivial)
    have G' := G k0 hd (fun g => by
      obtain ⟨i', h1, h2⟩ := hla (by omega)
      exact ⟨i', h1, by rw [show rd out (i' : Int) = (x7 : Int) from h2]; omega⟩)
    simp only [List.length_cons] at hm
    dsimp only at q2 q3 hz
    obtain ⟨r, hi, hr⟩ := ih _ (by omega) _ rfl q1 (by omega) G' (fun i a b d => by rw [E.keep i (hd i a b d)]; exact hd i a b d) (by rw [E.keep k0 (by show rd out (k0 : Int) ≠ 0; rw [show rd out (k0 : Int) = ((x7 + 1 : Nat) : Int) from hk0]; omega)]; exact hk0) (fun g => by
      obtain ⟨i', h1, h2⟩ := hla g
      exact ⟨i', h1, by rw [E.keep i' (by show rd out (i' : Int) ≠ 0; rw [show rd out (i' : Int) = (x7 : Int) from h2]; omega)]; exact h2⟩)
    have e1 : Aside0 (wrap64 (Int.tdiv (c : Int) (C : Int)) = ((c / C : Nat) : Int)) := ⟨by
      have e : Int.tdiv (c : Int) (C : Int) = ((c / C : Nat) : Int) := rfl
      rw [e]
      have := (place hC1 hc).1
      generalize c / C = q at this
      exact w64 (by omega) (by omega)⟩
    have e2 : Int.tmod (c : Int) (C : Int) = ((c % C : Nat) : Int) := rfl
    refine ⟨r, Ev.step (fun k => impl_Cells.l1.eq_2 _ _ _ _ _ _ _ _ _ k) (evPos (by simp) (evPos (by simp) (evPos (by simp; omega) (evNeg (by omega) ?_)))), hr⟩
    have r0 : rd ((c : Int) :: rest) 0 = (c : Int) := rfl
    simp only [Option.bind_some]
    rw [r0, e1.out, e2]
    exact four_dirs hR1 hR hC1 hC hn lv _ hnum n (k0 : Int) hc (out, rest) hI' r hi

theorem outerR : ∀ t j (x7 : Nat) (out : List Int), j + t = R * C → Inv (R * C) (out, []) → x7 + zs out ≤ R * C → Ok cells R C lv (x7 : Int) [] out → (∀ i : Nat, i < j → rd cells (i : Int) ≥ lv → i < R * C → rd out (i : Int) ≠ 0) → (1 ≤ x7 → ∃ i' : Nat, i' < j ∧ rd out (i' : Int) = (x7 : Int)) → ∃ r : List Int, Ev (fun k => impl_Cells.l0 k lv out (x7 : Int) ((R * C : Nat) : Int) (j : Int) (R : Int) (C : Int) cells) r ∧ Res cells R C lv r := by
  have hb := nle hR1 hR hC1 hC hn
  intro t
  induction t with
  | zero =>
    intro j x7 out hj hI hx hO hd hla
    have hl := hI.len
    dsimp only at hl
    refine ⟨out, Ev.step (fun k => impl_Cells.l0.eq_2 _ _ _ _ _ _ _ _ k) (evNeg (by omega) (Ev.now _)), hl, fun i => ⟨hI.pos i, ?_⟩, fun i hi => ⟨hO.high i, fun h => hd i (by omega) h hi⟩, fun i hi h0 s hs hS h1 => hO.closed i hi h0 (by simp) s hs hS (hO.high s h1), hO.ord⟩
    have := hO.le i
    show rd out (i : Int) ≤ 576
    omega
  | succ t ih =>
    intro j x7 out hj hI hx hO hd hla
    have hl := hI.len
    have hp := hI.pos j
    dsimp only at hl hp
    have u := up1 (j := j) (by omega)
    replace u := Aside0.mk u
    have u7 := up1 (j := x7) (by omega)
    replace u7 := Aside0.mk u7
    obtain ⟨p1, p2, p3, p4⟩ := place (R := R) (c := j) hC1 (by omega)
    have e1 : Aside0 (wrap64 (Int.tdiv (j : Int) (C : Int)) = ((j / C : Nat) : Int)) := ⟨by
      have e : Int.tdiv (j : Int) (C : Int) = ((j / C : Nat) : Int) := rfl
      rw [e]
      generalize j / C = q at p1
      exact w64 (by omega) (by omega)⟩
    have e2 : Int.tmod (j : Int) (C : Int) = ((j % C : Nat) : Int) := rfl
    have H := high_in hR1 hR hC1 hC hn lv (j / C) (j % C) p1 p2
    rw [← p3] at H
    have skip : (rd cells (j : Int) ≥ lv → rd out (j : Int) ≠ 0) → ∃ r, Ev (fun k => impl_Cells.j1 k lv out (x7 : Int) (j : Int) ((R * C : Nat) : Int) (j : Int) true (R : Int) (C : Int) cells) r ∧ Res cells R C lv r := fun g => by
      obtain ⟨r0, i0, hr0⟩ := ih (j + 1) x7 out (by omega) hI hx hO (fun i a b d => by
        by_cases e : i = j
        · subst e; exact g b
        · exact hd i (by omega) b d) (fun g => by
        obtain ⟨i', h1, h2⟩ := hla g
        exact ⟨i', by omega, h2⟩)
      exact ⟨r0, Ev.step (fun k => impl_Cells.j1.eq_2 _ _ _ _ _ _ _ _ _ _ k) (evPos rfl (by rw [u.out]; exact i0)), hr0⟩
    by_cases c1 : rd out (j : Int) = 0
    rotate_left
    · obtain ⟨r0, i0, hr0⟩ := skip (fun _ => c1)
      exact ⟨r0, Ev.step (fun k => impl_Cells.l0.eq_2 _ _ _ _ _ _ _ _ k) (evPos (by omega) (evPos (by omega) (evPos (by omega) (evPos (by omega) i0)))), hr0⟩
    by_cases c2 : rd cells (j : Int) ≥ lv
    rotate_left
    · obtain ⟨r0, i0, hr0⟩ := skip (fun g => absurd g c2)
      refine ⟨r0, Ev.step (fun k => impl_Cells.l0.eq_2 _ _ _ _ _ _ _ _ k) (evPos (by omega) (evPos (by omega) (evPos (by omega) (evNeg (by omega) (evNeg (by omega) ?_))))), hr0⟩
      rw [e1.out, e2, H, decide_eq_false c2]; exact i0
    have z := zs_set ((x7 + 1 : Nat) : Int) (by omega) out j (by omega) (by rw [← rd_nat]; exact c1)
    have RS := fun i : Nat => rd_set out j ((x7 + 1 : Nat) : Int) i (by omega)
    have hst : Inv (R * C) (out.set j ((x7 + 1 : Nat) : Int), [(j : Int)]) := ⟨by simpa using hl, fun i => by
      dsimp only
      rw [rd_set _ _ _ _ (by omega)]
      split
      · omega
      · exact hI.pos i, fun s hs => by rw [List.mem_singleton.1 hs]; omega, by
      have h_ := hI.room
      change 0 + zs out ≤ R * C at h_
      show 1 + zs (out.set j ((x7 + 1 : Nat) : Int)) ≤ R * C
      omega⟩
    have hO' : Ok cells R C lv ((x7 + 1 : Nat) : Int) [(j : Int)] (out.set j ((x7 + 1 : Nat) : Int)) := by
      refine ⟨fun i hi => ?_, fun i => ?_, fun i hi h0 hnt s hs hS hH => ?_, fun i hi => ?_, fun i hi => ?_⟩
      · rw [RS] at hi
        by_cases e : i = j
        · subst e; exact c2
        · rw [if_neg e] at hi; exact hO.high i hi
      · rw [RS]
        have := hO.le i
        split <;> omega
      · have e : i ≠ j := fun e => hnt (by rw [e]; exact List.mem_singleton.2 rfl)
        rw [RS, if_neg e] at h0
        have g := hO.closed i hi h0 (by simp) s hs hS hH
        have e' : s ≠ j := fun e' => by subst e'; rw [c1] at g; exact h0 g.symm
        rw [RS s, RS i, if_neg e', if_neg e]; exact g
      · have e : i = j := by have := List.mem_singleton.1 hi; omega
        rw [RS, if_pos e]
      · rw [RS] at hi ⊢
        by_cases e : i = j
        · subst e
          rw [if_pos rfl] at hi ⊢
          obtain ⟨i', h1, h2⟩ := hla (by omega)
          exact ⟨i', h1, by rw [RS, if_neg (by omega), h2]; omega⟩
        · rw [if_neg e] at hi ⊢
          obtain ⟨i', h1, h2⟩ := hO.ord i hi
          have e' : i' ≠ j := fun e' => by subst e'; rw [c1] at h2; omega
          exact ⟨i', h1, by rw [RS, if_neg e']; exact h2⟩
    obtain ⟨r, hi, hr⟩ := bfsR hR1 hR hC1 hC hn lv x7 (by omega) j (by omega) ((R * C : Nat) : Int) (zs (out.set j ((x7 + 1 : Nat) : Int))) (fun out' hI' hz' hO2 hd2 hk2 => ih (j + 1) (x7 + 1) out' (by omega) hI' (by omega) hO2 (fun i a b d => hd2 i (by omega) b d) (fun _ => ⟨j, by omega, hk2⟩)) _ (out.set j ((x7 + 1 : Nat) : Int), [(j : Int)]) rfl hst (Nat.le_refl _) hO' (fun i a b d => by
      show rd (out.set j ((x7 + 1 : Nat) : Int)) (i : Int) ≠ 0
      rw [RS]
      split
      · omega
      · exact hd i (by omega) b d) (by show rd (out.set j ((x7 + 1 : Nat) : Int)) (j : Int) = _; rw [RS, if_pos rfl]) (fun g => by
      obtain ⟨i', h1, h2⟩ := hla g
      exact ⟨i', h1, by show rd (out.set j ((x7 + 1 : Nat) : Int)) (i' : Int) = _; rw [RS, if_neg (by omega)]; exact h2⟩)
    refine ⟨r, Ev.step (fun k => impl_Cells.l0.eq_2 _ _ _ _ _ _ _ _ k) (evPos (by omega) (evPos (by omega) (evPos (by omega) (evNeg (by omega) (evNeg (by omega) ?_))))), hr⟩
    rw [e1.out, e2, H, decide_eq_true c2]
    simp only [Option.bind_some]
    refine Ev.step (fun k => impl_Cells.j1.eq_2 _ _ _ _ _ _ _ _ _ _ k) (evNeg (by decide) (evPos (by omega) (evPos (by omega) ?_)))
    rw [u7.out, Int.toNat_natCast]
    exact hi
end

/-! a box against itself -/
section
variable {cells : List Int} {R C : Nat} (hR1 : 1 ≤ R) (hR : R ≤ 24) (hC1 : 1 ≤ C) (hC : C ≤ 24) (hn : cells.length = R * C) (lv : Int)
include hR1 hR hC1 hC hn
def rc (cells : List Int) (C : Nat) (lv : Int) (i : Nat) : Nat → Nat → Int
  | _, 0 => 0
  | j, t + 1 => (if rd cells ((i * C + j : Nat) : Int) ≥ lv then 1 else 0) + rc cells C lv i (j + 1) t
def tot (cells : List Int) (C : Nat) (lv : Int) : Nat → Nat → Int
  | _, 0 => 0
  | i, t + 1 => rc cells C lv i 0 C + tot cells C lv (i + 1) t
omit hR1 hR hC1 hC hn in
theorem rc_le (i : Nat) : ∀ t j, 0 ≤ rc cells C lv i j t ∧ rc cells C lv i j t ≤ (t : Int) := by
  intro t
  induction t with
  | zero => intro j; exact ⟨Int.le_refl _, Int.le_refl _⟩
  | succ t ih =>
    intro j
    have := ih (j + 1)
    unfold rc
    split <;> omega
theorem high_any (y x : Int) : ∃ b, impl_Box_high.f (R : Int) (C : Int) cells y x lv = some b := by
  by_cases h : 0 ≤ y ∧ y ≤ (R : Int) - 1 ∧ 0 ≤ x ∧ x ≤ (C : Int) - 1
  · obtain ⟨i, rfl⟩ := Int.eq_ofNat_of_zero_le h.1
    obtain ⟨j, rfl⟩ := Int.eq_ofNat_of_zero_le h.2.2.1
    exact ⟨_, high_in hR1 hR hC1 hC hn lv i j (by omega) (by omega)⟩
  · exact ⟨_, high_out hR1 hR hC1 hC hn lv y x h⟩
theorem mv3 (best br bc dr dc : Int) (h1 : -3 ≤ dr) (h2 : dr ≤ 3) (h3 : -3 ≤ dc) (h4 : dc ≤ 3) (i : Nat) (hi : i < R) : ∀ (t j : Nat) (n : Int), j + t = C → 0 ≤ n → n + (t : Int) ≤ 10000 → ∃ n' : Int, n ≤ n' ∧ n' ≤ n + rc cells C lv i j t ∧ (dr = 0 → dc = 0 → n' = n + rc cells C lv i j t) ∧ ∀ X, Ev (fun k => impl_Moved.l2 k lv best br bc dr dc n' ((i + 1 : Nat) : Int) (R : Int) (C : Int) cells (R : Int) (C : Int) cells) X → Ev (fun k => impl_Moved.l3 k lv best br bc dr dc n (i : Int) (j : Int) (R : Int) (C : Int) cells (R : Int) (C : Int) cells) X := by
  have ui := up1 (j := i) (by omega)
  replace ui := Aside0.mk ui
  have ai : Aside0 (wrap64 ((i : Int) + dr) = (i : Int) + dr) := ⟨w64 (by omega) (by omega)⟩
  intro t
  induction t with
  | zero =>
    intro j n hj h0 hb
    refine ⟨n, Int.le_refl _, by unfold rc; omega, fun _ _ => by unfold rc; omega, fun X h => Ev.step (fun k => impl_Moved.l3.eq_2 _ _ _ _ _ _ _ _ _ _ _ _ _ _ _ k) (evNeg (by omega) ?_)⟩
    rw [ui.out]; exact h
  | succ t ih =>
    intro j n hj h0 hb
    have uj := up1 (j := j) (by omega)
    replace uj := Aside0.mk uj
    have aj : Aside0 (wrap64 ((j : Int) + dc) = (j : Int) + dc) := ⟨w64 (by omega) (by omega)⟩
    have an : Aside0 (wrap64 (n + 1) = n + 1) := ⟨w64 (by omega) (by omega)⟩
    have H := high_in hR1 hR hC1 hC hn lv i j hi (by omega)
    obtain ⟨b, hb2⟩ := high_any hR1 hR hC1 hC hn lv ((i : Int) + dr) ((j : Int) + dc)
    have bz : dr = 0 → dc = 0 → b = decide (rd cells ((i * C + j : Nat) : Int) ≥ lv) := fun e1 e2 => by
      subst e1; subst e2
      rw [Int.add_zero, Int.add_zero, H] at hb2
      exact (Option.some.inj hb2).symm
    have S0 : ∀ X, Ev (fun k => if decide (rd cells ((i * C + j : Nat) : Int) ≥ lv) = true then (if b = true then impl_Moved.l3 k lv best br bc dr dc (n + 1) (i : Int) ((j + 1 : Nat) : Int) (R : Int) (C : Int) cells (R : Int) (C : Int) cells else impl_Moved.l3 k lv best br bc dr dc n (i : Int) ((j + 1 : Nat) : Int) (R : Int) (C : Int) cells (R : Int) (C : Int) cells) else impl_Moved.l3 k lv best br bc dr dc n (i : Int) ((j + 1 : Nat) : Int) (R : Int) (C : Int) cells (R : Int) (C : Int) cells) X → Ev (fun k => impl_Moved.l3 k lv best br bc dr dc n (i : Int) (j : Int) (R : Int) (C : Int) cells (R : Int) (C : Int) cells) X := by
      intro X h
      refine Ev.step (fun k => impl_Moved.l3.eq_2 _ _ _ _ _ _ _ _ _ _ _ _ _ _ _ k) (evPos (by omega) ?_)
      rw [ai.out, aj.out, an.out, uj.out, H, hb2]
      exact h
    unfold rc
    by_cases c : rd cells ((i * C + j : Nat) : Int) ≥ lv
    · rw [if_pos c]
      by_cases cb : b = true
      · obtain ⟨n', g1, g2, g3, g4⟩ := ih (j + 1) (n + 1) (by omega) (by omega) (by omega)
        exact ⟨n', by omega, by omega, fun e1 e2 => by have := g3 e1 e2; omega, fun X h => S0 X (evPos (decide_eq_true c) (evPos cb (g4 X h)))⟩
      · obtain ⟨n', g1, g2, g3, g4⟩ := ih (j + 1) n (by omega) (by omega) (by omega)
        exact ⟨n', by omega, by omega, fun e1 e2 => absurd ((bz e1 e2).trans (decide_eq_true c)) cb, fun X h => S0 X (evPos (decide_eq_true c) (evNeg cb (g4 X h)))⟩
    · rw [if_neg c]
      obtain ⟨n', g1, g2, g3, g4⟩ := ih (j + 1) n (by omega) (by omega) (by omega)
      exact ⟨n', by omega, by omega, fun e1 e2 => by have := g3 e1 e2; omega, fun X h => S0 X (evNeg (by rw [decide_eq_false c]; decide) (g4 X h))⟩
theorem mv2 (best br bc dr dc : Int) (h1 : -3 ≤ dr) (h2 : dr ≤ 3) (h3 : -3 ≤ dc) (h4 : dc ≤ 3) : ∀ (t i : Nat) (n : Int), i + t = R → 0 ≤ n → n + ((t * C : Nat) : Int) ≤ 9000 → ∃ n' : Int, n ≤ n' ∧ n' ≤ n + tot cells C lv i t ∧ (dr = 0 → dc = 0 → n' = n + tot cells C lv i t) ∧ ∀ X, Ev (fun k => impl_Moved.l2 k lv best br bc dr dc n' (R : Int) (R : Int) (C : Int) cells (R : Int) (C : Int) cells) X → Ev (fun k => impl_Moved.l2 k lv best br bc dr dc n (i : Int) (R : Int) (C : Int) cells (R : Int) (C : Int) cells) X := by
  intro t
  induction t with
  | zero =>
    intro i n hi h0 hb
    obtain rfl : i = R := by omega
    exact ⟨n, Int.le_refl _, by unfold tot; omega, fun _ _ => by unfold tot; omega, fun X h => h⟩
  | succ t ih =>
    intro i n hi h0 hb
    rw [Nat.succ_mul] at hb
    have hr := rc_le (cells := cells) (C := C) lv i C 0
    obtain ⟨n1, g1, g2, g3, g4⟩ := mv3 hR1 hR hC1 hC hn lv best br bc dr dc h1 h2 h3 h4 i (by omega) C 0 n (by omega) h0 (by omega)
    obtain ⟨n2, f1, f2, f3, f4⟩ := ih (i + 1) n1 (by omega) (by omega) (by omega)
    unfold tot
    refine ⟨n2, by omega, by omega, fun e1 e2 => by have := g3 e1 e2; have := f3 e1 e2; omega, fun X h => Ev.step (fun k => impl_Moved.l2.eq_2 _ _ _ _ _ _ _ _ _ _ _ _ _ _ k) (evPos (by omega) (g4 X (f4 X h)))⟩
omit hR1 hR hC1 hC hn in
theorem sq_pos (a b : Int) (h1 : -3 ≤ a) (h2 : a ≤ 3) (h3 : -3 ≤ b) (h4 : b ≤ 3) : 0 ≤ wrap64 (wrap64 (a * a) + wrap64 (b * b)) ∧ ((a ≠ 0 ∨ b ≠ 0) → 0 < wrap64 (wrap64 (a * a) + wrap64 (b * b))) := by
  have ha : a = -3 ∨ a = -2 ∨ a = -1 ∨ a = 0 ∨ a = 1 ∨ a = 2 ∨ a = 3 := by omega
  have hb : b = -3 ∨ b = -2 ∨ b = -1 ∨ b = 0 ∨ b = 1 ∨ b = 2 ∨ b = 3 := by omega
  rcases ha with rfl | rfl | rfl | rfl | rfl | rfl | rfl <;> rcases hb with rfl | rfl | rfl | rfl | rfl | rfl | rfl <;> decide +kernel
structure Bst (T dr dc best br bc : Int) : Prop where
  r1 : -3 ≤ br ∧ br ≤ 3
  r2 : -3 ≤ bc ∧ bc ≤ 3
  past : (0 < dr ∨ (dr = 0 ∧ 0 < dc)) → best = T ∧ br = 0 ∧ bc = 0
  ahead : ¬ (0 < dr ∨ (dr = 0 ∧ 0 < dc)) → best ≤ T ∧ (best = -1 ∨ br ≠ 0 ∨ bc ≠ 0)
theorem mv1 (dr : Int) (h1 : -3 ≤ dr) (h2 : dr ≤ 3) (X : Int × Int × Bool) (cont : ∀ best br bc, Bst (tot cells C lv 0 R) dr 4 best br bc → Ev (fun k => impl_Moved.l0 k lv best br bc (dr + 1) (R : Int) (C : Int) cells (R : Int) (C : Int) cells) X) : ∀ (t : Nat) (dc best br bc : Int), dc + (t : Int) = 4 → -3 ≤ dc → Bst (tot cells C lv 0 R) dr dc best br bc → Ev (fun k => impl_Moved.l1 k lv best br bc dr dc (R : Int) (C : Int) cells (R : Int) (C : Int) cells) X := by
  have hrc := nle hR1 hR hC1 hC hn
  intro t
  induction t with
  | zero =>
    intro dc best br bc ht h3 hB
    obtain rfl : dc = 4 := by omega
    refine Ev.step (fun k => impl_Moved.l1.eq_2 _ _ _ _ _ _ _ _ _ _ _ _ k) (evNeg (by omega) ?_)
    rw [w64 (x := dr + 1) (by omega) (by omega)]
    exact cont best br bc hB
  | succ t ih =>
    intro dc best br bc ht h3 hB
    obtain ⟨n', g1, g2, g3, g4⟩ := mv2 hR1 hR hC1 hC hn lv best br bc dr dc h1 h2 h3 (by omega) R 0 0 (by omega) (by omega) (by omega)
    have ad : Aside0 (wrap64 (dc + 1) = dc + 1) := ⟨w64 (by omega) (by omega)⟩
    obtain ⟨⟨a1, a2⟩, ⟨b1, b2⟩, hp, ha⟩ := hB
    obtain ⟨s0, s1⟩ := sq_pos dr dc h1 h2 h3 (by omega)
    obtain ⟨q0, q1⟩ := sq_pos br bc a1 a2 b1 b2
    have sz : wrap64 (wrap64 ((0 : Int) * 0) + wrap64 ((0 : Int) * 0)) = 0 := by decide +kernel
    generalize tot cells C lv 0 R = T at *
    refine Ev.step (fun k => impl_Moved.l1.eq_2 _ _ _ _ _ _ _ _ _ _ _ _ k) (evPos (by omega) (g4 X ?_))
    refine Ev.step (fun k => impl_Moved.l2.eq_2 _ _ _ _ _ _ _ _ _ _ _ _ _ _ k) (evNeg (by omega) ?_)
    rw [ad.out]
    by_cases z : dr = 0 ∧ dc = 0
    · obtain ⟨e1, e2⟩ := z
      have e3 := g3 e1 e2
      obtain ⟨l1, l2⟩ := ha (by omega)
      have nx : Bst T dr (dc + 1) n' dr dc := ⟨by omega, by omega, fun _ => by omega, fun h => by omega⟩
      by_cases c1 : n' > best
      · exact evPos c1 (ih (dc + 1) n' dr dc (by omega) (by omega) nx)
      · refine evNeg c1 (evPos (by omega) (evPos ?_ (ih (dc + 1) n' dr dc (by omega) (by omega) nx)))
        subst e1; subst e2
        rw [sz]
        exact q1 (by omega)
    by_cases v : 0 < dr ∨ (dr = 0 ∧ 0 < dc)
    · obtain ⟨e1, e2, e3⟩ := hp v
      have nx : Bst T dr (dc + 1) best br bc := ⟨⟨a1, a2⟩, ⟨b1, b2⟩, fun _ => ⟨e1, e2, e3⟩, fun h => by omega⟩
      refine evNeg (by omega) ?_
      by_cases c2 : n' = best
      · refine evPos c2 (evNeg ?_ (ih (dc + 1) best br bc (by omega) (by omega) nx))
        subst e2; subst e3
        rw [sz]
        omega
      · exact evNeg c2 (ih (dc + 1) best br bc (by omega) (by omega) nx)
    · obtain ⟨l1, l2⟩ := ha v
      have nx : Bst T dr (dc + 1) n' dr dc := ⟨by omega, by omega, fun h => by omega, fun _ => by omega⟩
      have kp : Bst T dr (dc + 1) best br bc := ⟨⟨a1, a2⟩, ⟨b1, b2⟩, fun h => by omega, fun _ => ⟨l1, l2⟩⟩
      by_cases c1 : n' > best
      · exact evPos c1 (ih (dc + 1) n' dr dc (by omega) (by omega) nx)
      · refine evNeg c1 ?_
        by_cases c2 : n' = best
        · refine evPos c2 ?_
          by_cases c3 : wrap64 (wrap64 (dr * dr) + wrap64 (dc * dc)) < wrap64 (wrap64 (br * br) + wrap64 (bc * bc))
          · exact evPos c3 (ih (dc + 1) n' dr dc (by omega) (by omega) nx)
          · exact evNeg c3 (ih (dc + 1) best br bc (by omega) (by omega) kp)
        · exact evNeg c2 (ih (dc + 1) best br bc (by omega) (by omega) kp)
theorem mv0 : ∀ (t : Nat) (dr best br bc : Int), dr + (t : Int) = 4 → -3 ≤ dr → Bst (tot cells C lv 0 R) dr (-3) best br bc → Ev (fun k => impl_Moved.l0 k lv best br bc dr (R : Int) (C : Int) cells (R : Int) (C : Int) cells) (0, 0, true) := by
  intro t
  induction t with
  | zero =>
    intro dr best br bc ht h1 hB
    obtain ⟨e1, e2, e3⟩ := hB.past (by omega)
    subst e2; subst e3
    exact Ev.step (fun k => impl_Moved.l0.eq_2 _ _ _ _ _ _ _ _ _ _ _ k) (evNeg (by omega) (Ev.now _))
  | succ t ih =>
    intro dr best br bc ht h1 hB
    refine Ev.step (fun k => impl_Moved.l0.eq_2 _ _ _ _ _ _ _ _ _ _ _ k) (evPos (by omega) ?_)
    refine mv1 hR1 hR hC1 hC hn lv dr h1 (by omega) (0, 0, true) (fun best br bc hB' => ih (dr + 1) best br bc (by omega) (by omega) ⟨hB'.r1, hB'.r2, fun h => hB'.past (by omega), fun h => hB'.ahead (by omega)⟩) 7 (-3) best br bc (by omega) (by omega) hB

/-! the law's own look -/
theorem law_loop (r : List Int) (hr : Res cells R C lv r) (hM : Ev (fun k => impl_Moved.f k (R : Int) (C : Int) cells lv (R : Int) (C : Int) cells) (0, 0, true)) : ∀ (t i : Nat) (x6 : Int), i + t = R * C → 0 ≤ x6 → x6 ≤ 576 → (∀ i' : Nat, i' < i → rd r (i' : Int) ≤ x6) → Ev (fun k => laws_FnStormCells.l0 k lv r x6 (i : Int) (R : Int) (C : Int) cells) true := by
  have hrc := nle hR1 hR hC1 hC hn
  have hlen := hr.len
  intro t
  induction t with
  | zero =>
    intro i x6 hi h0 h1 hm
    refine Ev.step (fun k => laws_FnStormCells.l0.eq_2 _ _ _ _ _ _ _ k) (evNeg (by omega) (Ev.bind hM (evPos rfl (evPos rfl (Ev.now _)))))
  | succ t ih =>
    intro i x6 hi h0 h1 hm
    have hiN : i < R * C := by omega
    obtain ⟨g0, g1⟩ := hr.rng i
    have u := up1 (j := i) (by omega)
    replace u := Aside0.mk u
    have e6 : Aside0 (wrap64 (x6 + 1) = x6 + 1) := ⟨w64 (by omega) (by omega)⟩
    have ord : rd r (i : Int) ≤ x6 + 1 := by
      by_cases c : 1 < rd r (i : Int)
      · obtain ⟨i', a, b⟩ := hr.ord i c
        have := hm i' a
        omega
      · omega
    have mxe : mx x6 (rd r (i : Int)) = if x6 < rd r (i : Int) then rd r (i : Int) else x6 := by unfold mx; rfl
    have nx : Ev (fun k => laws_FnStormCells.l0 k lv r (mx x6 (rd r (i : Int))) ((i + 1 : Nat) : Int) (R : Int) (C : Int) cells) true := by
      rw [mxe]
      refine ih (i + 1) _ (by omega) (by split <;> omega) (by split <;> omega) (fun i' hi' => ?_)
      by_cases e : i' = i
      · subst e; split <;> omega
      · have := hm i' (by omega)
        split <;> omega
    have J2 : Ev (fun k => laws_FnStormCells.j2 k lv r (mx x6 (rd r (i : Int))) (i : Int) false (R : Int) (C : Int) cells) true := by
      refine Ev.step (fun k => laws_FnStormCells.j2.eq_2 _ _ _ _ _ _ _ _ k) (evNeg (by decide) ?_)
      rw [u.out]
      by_cases c : (i : Int) ≥ (C : Int)
      · refine evPos c (evPos (by omega) (evPos (by omega) ?_))
        by_cases c1 : rd r (i : Int) > 0
        · have d : Aside0 (wrap64 ((i : Int) - (C : Int)) = ((i - C : Nat) : Int)) := ⟨by rw [w64 (by omega) (by omega)]; omega⟩
          rw [d.out]
          refine evPos c1 (evPos (by omega) (evPos (by omega) ?_))
          by_cases c2 : rd r ((i - C : Nat) : Int) > 0
          · refine evPos c2 (evPos ?_ nx)
            refine (hr.same i hiN (by omega) (i - C) (by omega) ((mem_S hR1 hR hC1 hC hn hiN).2 (.inr (.inr (.inl ⟨?_, by omega⟩)))) (by omega)).symm
            exact Nat.div_pos (by omega) (by omega)
          · exact evNeg c2 nx
        · exact evNeg c1 nx
      · exact evNeg c nx
    have J1 : Ev (fun k => laws_FnStormCells.j1 k lv r x6 (i : Int) false (R : Int) (C : Int) cells) true := by
      refine Ev.step (fun k => laws_FnStormCells.j1.eq_2 _ _ _ _ _ _ _ _ k) (evNeg (by decide) (evPos (by omega) (evPos (by omega) (evNeg (by omega) ?_))))
      have e2 : Int.tmod (i : Int) (C : Int) = ((i % C : Nat) : Int) := rfl
      rw [e2]
      by_cases c : ((i % C : Nat) : Int) > 0
      · refine evPos c ?_
        by_cases c1 : rd r (i : Int) > 0
        · have him : i % C ≤ i := Nat.mod_le _ _
          have d : Aside0 (wrap64 ((i : Int) - 1) = ((i - 1 : Nat) : Int)) := ⟨by
            generalize i % C = q at c him
            rw [w64 (by omega) (by omega)]; omega⟩
          rw [d.out]
          refine evPos c1 (evPos (by omega) (evPos (by omega) ?_))
          by_cases c2 : rd r ((i - 1 : Nat) : Int) > 0
          · refine evPos c2 ?_
            have e := hr.same i hiN (by omega) (i - 1) (by omega) ((mem_S hR1 hR hC1 hC hn hiN).2 (.inr (.inr (.inr ⟨by
              generalize i % C = q at c
              omega, by
              generalize i % C = q at c him
              omega⟩)))) (by omega)
            rw [e, bne_self_eq_false]
            exact J2
          · exact evNeg c2 J2
        · exact evNeg c1 J2
      · exact evNeg c J2
    refine Ev.step (fun k => laws_FnStormCells.l0.eq_2 _ _ _ _ _ _ _ k) (evPos (by omega) (evPos (by omega) (evPos (by omega) (evNeg ?_ (evNeg (by omega) ?_)))))
    · have hh := hr.high i hiN
      by_cases c : rd cells (i : Int) ≥ lv
      · have := hh.2 c
        rw [decide_eq_true c, decide_eq_true (show rd r (i : Int) > 0 by omega)]; decide
      · have : ¬ rd r (i : Int) ≠ 0 := fun h => c (hh.1 h)
        rw [decide_eq_false c, decide_eq_false (show ¬ rd r (i : Int) > 0 by omega)]; decide
    · rw [e6.out, decide_eq_false (by omega)]
      exact J1
end

theorem cells_res (r c : Nat) (l : List Int) (lv : Int) (r1 : 1 ≤ r) (r2 : r ≤ 24) (c1 : 1 ≤ c) (c2 : c ≤ 24) (hl : l.length = r * c) (bi : Ev (fun k => impl_BoxOk.f k (r : Int) (c : Int) l) true) : ∃ x : List Int, Ev (fun k => impl_Cells.f k (r : Int) (c : Int) l lv) x ∧ Res l r c lv x := by
  have hrc := nle r1 r2 c1 c2 hl
  have z0 : ∀ i : Nat, rd (List.replicate (r * c) (0 : Int)) (i : Int) = 0 := fun i => by
    rw [rd_nat, List.getD_eq_getElem?_getD, List.getElem?_replicate]
    split <;> simp
  have hz : ∀ m, zs (List.replicate m (0 : Int)) = m := by
    intro m
    induction m with
    | zero => rfl
    | succ m ih => rw [List.replicate_succ]; show 1 + zs (List.replicate m 0) = m + 1; omega
  have hI : Inv (r * c) (List.replicate (r * c) (0 : Int), []) := ⟨by simp, fun i => by
    dsimp only
    rw [z0]; exact Int.le_refl _, fun s hs => by simp at hs, by rw [hz]; simp⟩
  have hO : Ok l r c lv ((0 : Nat) : Int) [] (List.replicate (r * c) (0 : Int)) := ⟨fun i h => absurd (z0 i) h, fun i => by rw [z0]; exact Int.le_refl _, fun i _ h => absurd (z0 i) h, fun i h => by simp at h, fun i h => by rw [z0] at h; omega⟩
  obtain ⟨x, hi, hr⟩ := outerR r1 r2 c1 c2 hl lv (r * c) 0 0 (List.replicate (r * c) (0 : Int)) (by omega) hI (by rw [hz]; omega) hO (fun i h => by omega) (fun h => by omega)
  refine ⟨x, ?_, hr⟩
  simp only [impl_Cells.f, Option.bind_some]
  refine Ev.bind bi (evPos rfl (evPos (by omega) (evPos (by rw [Int.toNat_natCast]; omega) ?_)))
  rw [Int.toNat_natCast, hl]
  simp only [List.length_replicate]
  exact hi
theorem moved_self (r c : Nat) (l : List Int) (lv : Int) (r1 : 1 ≤ r) (r2 : r ≤ 24) (c1 : 1 ≤ c) (c2 : c ≤ 24) (hl : l.length = r * c) (bi : Ev (fun k => impl_BoxOk.f k (r : Int) (c : Int) l) true) : Ev (fun k => impl_Moved.f k (r : Int) (c : Int) l lv (r : Int) (c : Int) l) (0, 0, true) := by
  have h0 : ∀ t i : Nat, 0 ≤ tot l c lv i t := by
    intro t
    induction t with
    | zero => intro i; exact Int.le_refl _
    | succ t ih =>
      intro i
      have := ih (i + 1)
      have := (rc_le (cells := l) (C := c) lv i c 0).1
      unfold tot
      omega
  simp only [impl_Moved.f]
  refine Ev.bind bi (evPos rfl (Ev.bind bi (evPos rfl (evPos trivial ?_))))
  rw [bne_self_eq_false]
  refine Ev.step (fun k => impl_Moved.j0.eq_2 _ _ _ _ _ _ _ _ k) (evNeg (by decide) ?_)
  exact mv0 r1 r2 c1 c2 hl lv 7 (-3) (-1) 0 0 (by omega) (by omega) ⟨by omega, by omega, fun h => by omega, fun _ => ⟨by have := h0 r 0; omega, .inl rfl⟩⟩

/-! what is drawn -/
theorem ev_of {α : Type} {x : Option α} {v : α} (h : x = some v) : Ev (fun _ => x) v := by rw [h]; exact Ev.now _
theorem box_l0 {l : List Int} (h : Src l) (R C : Int) (n : Nat) (hn : wrap64 (R * C) = (n : Int)) (hb : n ≤ 1000) : ∀ (t : Nat) (bl : List Int) (p : Int), bl.length + t = n → At l p → ∃ bl' q, Ev (fun k => spec_l1Rd_box.l0 k l p R C bl) (R, C, bl', q) ∧ 1 ≤ bl'.length + (1 - n) ∧ bl'.length ≤ 1000 ∧ At l q := by
  intro t
  induction t with
  | zero =>
    intro bl p hl hp
    exact ⟨bl, p, Ev.step (fun k => spec_l1Rd_box.l0.eq_2 _ _ _ _ _ k) (evNeg (by rw [hn]; omega) (Ev.now _)), by omega, by omega, hp⟩
  | succ t ih =>
    intro bl p hl hp
    obtain ⟨v, q, e, v0, v1, hq⟩ := below_ok h hp 9 (by omega)
    obtain ⟨bl', q', h', g1, g2, g3⟩ := ih (bl ++ [v]) q (by simp; omega) hq
    exact ⟨bl', q', Ev.step (fun k => spec_l1Rd_box.l0.eq_2 _ _ _ _ _ k) (evPos (by rw [hn]; omega) (Ev.bind (ev_of e) (evPos (by omega) h'))), g1, g2, g3⟩
theorem box_j1 {l : List Int} (h : Src l) (R C p : Int) (r1 : 1 ≤ R) (r2 : R ≤ 20) (c1 : 1 ≤ C) (c2 : C ≤ 20) (hp : At l p) : ∃ bl' q, Ev (fun k => spec_l1Rd_box.j1 k l p R C) (R, C, bl', q) ∧ 1 ≤ bl'.length ∧ bl'.length ≤ 1000 ∧ At l q := by
  obtain ⟨r, rfl⟩ := Int.eq_ofNat_of_zero_le (show 0 ≤ R by omega)
  obtain ⟨c, rfl⟩ := Int.eq_ofNat_of_zero_le (show 0 ≤ C by omega)
  have hm : r * c ≤ 20 * 20 := Nat.mul_le_mul (by omega) (by omega)
  have hm1 : 1 * 1 ≤ r * c := Nat.mul_le_mul (by omega) (by omega)
  obtain ⟨bl', q, h', g1, g2, g3⟩ := box_l0 h (r : Int) (c : Int) (r * c) (by rw [← Int.natCast_mul]; exact w64 (by omega) (by omega)) (by omega) (r * c) [] p (by simp) hp
  exact ⟨bl', q, Ev.step (fun k => spec_l1Rd_box.j1.eq_2 _ _ _ _ k) h', by omega, g2, g3⟩
theorem box_ok {l : List Int} (h : Src l) {p : Int} (hp : At l p) : ∃ R C bl q, Ev (fun k => spec_l1Rd_box.f k l p) (R, C, bl, q) ∧ 1 ≤ bl.length ∧ bl.length ≤ 1000 ∧ At l q := by
  simp only [spec_l1Rd_box.f]
  obtain ⟨v1, q1, e1, a1, b1, h1⟩ := below_ok h hp 5 (by omega)
  obtain ⟨v2, q2, e2, a2, b2, h2⟩ := below_ok h h1 6 (by omega)
  have J : ∀ (b : Bool) q, At l q → ∃ R C bl q', Ev (fun k => spec_l1Rd_box.j0 k b l q (wrap64 (1 + v1)) (wrap64 (1 + v2))) (R, C, bl, q') ∧ 1 ≤ bl.length ∧ bl.length ≤ 1000 ∧ At l q' := by
    intro b q hq
    have w1 : wrap64 (1 + v1) = 1 + v1 := w64 (by omega) (by omega)
    have w2 : wrap64 (1 + v2) = 1 + v2 := w64 (by omega) (by omega)
    rw [w1, w2]
    cases b with
    | false =>
      obtain ⟨bl, q', h', g⟩ := box_j1 h (1 + v1) (1 + v2) q (by omega) (by omega) (by omega) (by omega) hq
      exact ⟨_, _, bl, q', Ev.step (fun k => spec_l1Rd_box.j0.eq_2 _ _ _ _ _ k) (evNeg (by decide) h'), g⟩
    | true =>
      obtain ⟨v3, q3, e3, a3, b3, h3⟩ := below_ok h hq 5 (by omega)
      obtain ⟨v4, q4, e4, a4, b4, h4⟩ := below_ok h h3 5 (by omega)
      obtain ⟨bl, q', h', g⟩ := box_j1 h (wrap64 (1 + v1 + v3)) (wrap64 (1 + v2 + v4)) q4 (by rw [w64 (by omega) (by omega)]; omega) (by rw [w64 (by omega) (by omega)]; omega) (by rw [w64 (by omega) (by omega)]; omega) (by rw [w64 (by omega) (by omega)]; omega) h4
      exact ⟨_, _, bl, q', Ev.step (fun k => spec_l1Rd_box.j0.eq_2 _ _ _ _ _ k) (evPos rfl (Ev.bind (ev_of e3) (Ev.bind (ev_of e4) h'))), g⟩
  by_cases c : (l.length : Int) > 60
  · obtain ⟨b, q3, e3, h3⟩ := once_ok h h2 2 (by omega)
    obtain ⟨R, C, bl, q', h', g⟩ := J b q3 h3
    exact ⟨R, C, bl, q', Ev.bind (ev_of e1) (Ev.bind (ev_of e2) (evPos c (Ev.bind (ev_of e3) h'))), g⟩
  · obtain ⟨R, C, bl, q', h', g⟩ := J false q2 h2
    exact ⟨R, C, bl, q', Ev.bind (ev_of e1) (Ev.bind (ev_of e2) (evNeg c h')), g⟩
theorem drawBox_ok {l : List Int} (h : Src l) {p : Int} (hp : At l p) : ∃ R C bl q, Ev (fun k => spec_l12DrawBox.f k l p) (R, C, bl, q) ∧ bl.length ≤ 1000 ∧ At l q := by
  simp only [spec_l12DrawBox.f]
  obtain ⟨R, C, bl, q, e, g1, g2, hq⟩ := box_ok h hp
  obtain ⟨v, q1, e1, v0, v1, h1⟩ := below_ok h hq 24 (by omega)
  by_cases c0 : v = 0
  · obtain ⟨w, q2, e2, w0, w1, h2⟩ := below_ok h h1 3 (by omega)
    exact ⟨rd [0, 25, wrap64 (R + 1)] w, C, bl, q2, Ev.bind e (Ev.bind (ev_of e1) (evPos c0 (Ev.bind (Ev.now _) (Ev.bind (ev_of e2) (evPos w0 (evPos (show w < 3 from w1) (Ev.now _))))))), g2, h2⟩
  by_cases c1 : v = 1
  · exact ⟨R, C, bl.drop (1 : Int).toNat, q1, Ev.bind e (Ev.bind (ev_of e1) (evNeg c0 (evPos c1 (evPos (show (1 : Int) ≤ (bl.length : Int) by omega) (Ev.now _))))), by rw [List.length_drop]; omega, h1⟩
  by_cases c2 : v = 2
  · obtain ⟨w, q2, e2, w0, w1, h2⟩ := below_ok h h1 4 (by omega)
    exact ⟨R, C, bl.set (0 : Int).toNat (rd [1000000000, 1000000001, (-1000000000), (-1000000001)] w), q2, Ev.bind e (Ev.bind (ev_of e1) (evNeg c0 (evNeg c1 (evPos c2 (Ev.bind (Ev.now _) (Ev.bind (ev_of e2) (evPos w0 (evPos (show w < 4 from w1) (evPos (show (0 : Int) < (bl.length : Int) by omega) (Ev.now _)))))))))), by rw [List.length_set]; exact g2, h2⟩
  · exact ⟨R, C, bl, q1, Ev.bind e (Ev.bind (ev_of e1) (evNeg c0 (evNeg c1 (evNeg c2 (Ev.now _))))), g2, h1⟩
theorem draw_ok {l : List Int} (h : Src l) : ∃ R C bl lv, Ev (fun k => spec_DrawCells.f k l) (R, C, bl, lv) ∧ bl.length ≤ 1000 := by
  simp only [spec_DrawCells.f, spec_DrawContours.f]
  have e0 : Ev (fun _ : Nat => spec_l1Open.f l) (l, 0) := Ev.now _
  obtain ⟨R, C, bl, q, e, g, hq⟩ := drawBox_ok h (p := 0) ⟨by omega, by omega⟩
  obtain ⟨b, q1, e1, h1⟩ := once_ok h hq 12 (by omega)
  cases b with
  | true =>
    obtain ⟨v, q2, e2, _, h2⟩ := number_ok h h1
    exact ⟨R, C, bl, v, Ev.bind (Ev.bind e0 (Ev.bind e (Ev.bind (ev_of e1) (evPos rfl (Ev.bind e2 (Ev.now _)))))) (Ev.now _), g⟩
  | false =>
    obtain ⟨v, q2, e2, _, _, h2⟩ := below_ok h h1 10 (by omega)
    exact ⟨R, C, bl, v, Ev.bind (Ev.bind e0 (Ev.bind e (Ev.bind (ev_of e1) (evNeg (show ¬ (false = true) by decide) (Ev.bind (ev_of e2) (Ev.now _)))))) (Ev.now _), g⟩

theorem FnStormCells : laws_FnStormCells.Pure := by
  intro l _ _ hb
  refine Ev.rounds ?_
  simp only [laws_FnStormCells.f]
  have eb : Ev (fun _ : Nat => laws_big.f l) (decide ((l.length : Int) > 1048576)) := Ev.now _
  refine Ev.bind eb ?_
  by_cases big : decide ((l.length : Int) > 1048576) = true
  · exact evPos big (Ev.now _)
  refine evNeg big ?_
  have h : Src l := ⟨by have := big; simp at this; omega, fun x hx => by have := hb x hx; simp [Lit.wf] at this; exact this⟩
  obtain ⟨R, C, bl, lv, e, hlen⟩ := draw_ok h
  obtain ⟨b, bs, bi, hbx⟩ := box_both R C bl (by omega)
  cases b with
  | false =>
    have ic : Ev (fun k => impl_Cells.f k R C bl lv) [] := by
      simp only [impl_Cells.f]
      exact Ev.bind bi (evNeg (by decide) (Ev.now _))
    exact Ev.bind e (Ev.bind ic (Ev.bind bs (evNeg (by decide) (Ev.now _))))
  | true =>
    obtain ⟨r, c, rfl, rfl, r1, r2, c1, c2, hl⟩ := hbx rfl
    obtain ⟨x, ix, hr⟩ := cells_res r c bl lv r1 r2 c1 c2 hl bi
    have hrc := nle r1 r2 c1 c2 hl
    have hM := moved_self r c bl lv r1 r2 c1 c2 hl bi
    have L := law_loop r1 r2 c1 c2 hl lv x hr hM (r * c) 0 0 (by omega) (by omega) (by omega) (fun i h => by omega)
    have e2 : wrap64 ((r : Int) * (c : Int)) = ((r * c : Nat) : Int) := by
      rw [← Int.natCast_mul]
      exact w64 (by omega) (by omega)
    have hx := hr.len
    exact Ev.bind e (Ev.bind ix (Ev.bind bs (evPos rfl (evPos (show (x.length : Int) = wrap64 ((r : Int) * (c : Int)) by rw [e2]; omega) L))))
end Go.Proofs.Ytcdghhihfjojaab.Pure
end

section
/- Plain Lean functions with the same answers as the Go functions of this seat, and a proof for each that the Go code comes to just these answers; no condition. Written by a program of this session (the kit's printer, turned). -/
namespace Go.Proofs.Ytcdghhihfjojaab.fnStormCells
open Go.ChangeShapes Go.WideShapes Go.ChangeAt Go.RowKit
open Go.ChangeMaps (open_string shut_string)
set_option linter.unusedVariables false
theorem own : ownKnob Try.prog.godebug = none := by kernel_rfl
theorem laidOut : laidOutB Try.prog = true := by kernel_rfl
def IsRow (k : IntKind) (w : World) (a : Option Addr) (len cap : Nat) (zs : List Int) : Prop :=
  (a = none ∧ len = 0 ∧ cap = 0 ∧ zs = []) ∨
  ∃ x, a = some x ∧ len ≤ cap ∧ cap ≤ maxLen ∧ zs.length = cap ∧ (∀ i, i < zs.length → w.cell? (x.add i) = some (.int k (zs.getD i 0))) ∧ ∀ n ∈ zs, (Lit.int k n).wf = true
set_option maxRecDepth 100000 in
theorem lifted (os : Os) (started : os.Started) (H : Type) (enc : TypeId × Value → H) :
    ReturnsInHanded {} Try.checked os 4 .any (Rows.fnStormCellsSpec.pre6 enc Try.prog Try.f4 Rows.fnStormCellsRow.domain false) (Rows.fnStormCellsSpec.post enc Try.prog Try.f4 false true false false) := by
  refine returnsInHanded_of_change_sized (C := Try.checked) own started (by kernel_rfl) Try.func4
    (ChangeSpec.witness6 (enc := enc) (C := Try.checked) false ⟨#[], #[.slice none 0 0], []⟩ 8 (by kernel_rfl) (by kernel_rfl) (by kernel_rfl) (by kernel_rfl)) ?_
  intro W base args ds gs before hval0 hW hcnd hsz0 _
  have hsz : (DataW.weightsEach Try.prog (Try.f4.params.toList ++ Rows.fnStormCellsSpec.plain.varTypes Try.prog) (ds ++ gs)).all (· ≤ reachBytes) = true := hsz0
  have hval : ∀ (j : Nat) t v, Try.f4.params[j]? = some t → args[j]? = some v → Value.okWide Try.prog W .any base t v := hval0
  have hW' := hW
  obtain ⟨p, q, hA0, hV, rfl, hfz, hnd⟩ := hW
  have hA : DataW.TrodAll enc Try.prog W 0 (fun _ => true) true Try.f4.params.toList args.toList ds p := hA0
  rw [Try.params4] at hA hval hsz
  obtain ⟨v0, vs0, d0, ds0, p0, q0, hargs, rfl, rfl, h0, r0⟩ := trodAll_cons hA
  obtain ⟨rfl, rfl, rfl⟩ := trodAll_nil r0
  obtain rfl : args = #[v0] := by cases args; simp_all
  obtain ⟨rfl, rfl⟩ := trodVars_none hV
  obtain ⟨a0, len0, cap0, rfl⟩ := okWide_slice Try.underlying34 (hval 0 34 v0 rfl rfl)
  have k0 := h0
  have lt0 : ∀ x ∈ p0, x.block < W.heap.size := by obtain ⟨m, hm⟩ := k0; exact DataW.trod_lt m _ _ _ hm
  obtain ⟨z0, w0⟩ : ∃ zs, IsRow .u8 W a0 len0 cap0 zs := by
    obtain ⟨fuel, hf⟩ := h0
    rcases open_ints Try.underlying34 Try.underlying5 (by kernel_rfl) hf with ⟨hcs, _⟩ | ⟨x, l, c, zs, hcs, _, hl, hm, hz, _, hcell, hwz⟩
    · simp [Value.cells] at hcs
      obtain ⟨rfl, rfl, rfl⟩ := hcs
      exact ⟨[], .inl ⟨rfl, rfl, rfl, rfl⟩⟩
    · simp [Value.cells] at hcs
      obtain ⟨rfl, rfl, rfl⟩ := hcs
      exact ⟨zs, .inr ⟨_, rfl, hl, hm, by simpa using hz, hcell, hwz⟩⟩
  have y0 : len0 * 1 ≤ 140737488351232 := Go.Proofs.YtcdghhihfjojaabW.PrintWords.sized_ints hsz (j := 0) (t := 34) rfl rfl Try.underlying34 Try.underlying5 (by kernel_rfl) (by kernel_rfl) h0
  clear hA0 hval0 hsz0 hsz
  refine (Q.laws_FnStormCells.walk Pure.FnStormCells a0 len0 cap0 z0 W w0 y0).mono fun e W' ⟨he, bel⟩ => ?_
  subst he
  exact ⟨_, rfl, _, _, _, [], _, [], hW', trodAll_mk1 (shut_bool Try.underlying4 _), (trodAll_cons_mk (Below.trod laidOut (by kernel_rfl) (of_decide_eq_true (by kernel_rfl)) k0 bel lt0) trodAll_mk0), rfl, bel.frame _, fun h => by cases h⟩
theorem over : Rows.fnStormCellsRow.holds Try.pinned (OpenSpec.ofChange Rows.fnStormCellsSpec) :=
  OpenClaim.holds_of_wide 4 Try.f4 rfl rfl rfl rfl rfl rfl rfl ⟨rfl, rfl, rfl, rfl, rfl⟩ rfl rfl rfl rfl rfl (by kernel_rfl) Try.func4 (by kernel_rfl)
    (of_decide_eq_true (by kernel_rfl)) (by unfold Func.isWrapper; first | (rw [if_pos (by decide +kernel)]; kernel_rfl) | (rw [if_neg (by decide +kernel)]; exact ⟨rfl, rfl⟩))
    (fun os started H enc _ => lifted os started H enc)
theorem proved : Rows.FnStormCellsSaid := over
#print axioms proved
end Go.Proofs.Ytcdghhihfjojaab.fnStormCells
namespace Go.Proofs.Ytcdghhihfjojaab
/-- The row, under a short name, for the claim. -/
theorem fnStormCells_holds : Rows.FnStormCellsSaid := fnStormCells.proved
end Go.Proofs.Ytcdghhihfjojaab
end
