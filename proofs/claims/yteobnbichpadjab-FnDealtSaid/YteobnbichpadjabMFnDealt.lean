/- The plain statement of the law FnDealt: of drawn entries no slot has more than the budget, and one that has no slot would have had room in none; no condition. -/
import Derived.Test.YteobnbichpadjabWWords
import Derived.Test.YteobnbichpadjabWMore
import Derived.Test.YteobnbichpadjabQx18
import Derived.Test.YteobnbichpadjabQx6
import Derived.Test.YteobnbichpadjabQx3
import Derived.Test.YteobnbichpadjabQx4
import Derived.Test.YteobnbichpadjabQx5
import Derived.Deep.Slices
import Derived.ChangeArms
import Derived.WideShapes
import Derived.Test.YteobnbichpadjabFlt
import Derived.Test.YteobnbichpadjabQx1
import Derived.Test.YteobnbichpadjabQx10
import Derived.Test.YteobnbichpadjabQx11
import Derived.Test.YteobnbichpadjabQx12
import Derived.Test.YteobnbichpadjabQx13
import Derived.Test.YteobnbichpadjabQx14
import Derived.Test.YteobnbichpadjabQx15
import Derived.Test.YteobnbichpadjabQx16
import Derived.Test.YteobnbichpadjabQx17
import Derived.Test.YteobnbichpadjabQx19
import Derived.Test.YteobnbichpadjabQx2
import Derived.Test.YteobnbichpadjabQx20
import Derived.Test.YteobnbichpadjabQx21
import Derived.Test.YteobnbichpadjabQx23
import Derived.Test.YteobnbichpadjabQx24
import Derived.Test.YteobnbichpadjabQx25
import Derived.Test.YteobnbichpadjabQx26
import Derived.Test.YteobnbichpadjabQx7
import Derived.Test.YteobnbichpadjabQx8
import Derived.Test.YteobnbichpadjabQx9
import Derived.Test.YteobnbichpadjabRows
import Derived.WalkKit
import Derived.ProofKit
import Derived.OpenShut
import Derived.ShutString
import Derived.ChangeOld
import Derived.Below
import Derived.SizedLaws
import Derived.Test.YteobnbichpadjabWSized

section
/- Loops told by rounds: general lemmas for the plain statements of this seat: a loop with an invariant and a measure ends; copying, comparing, marking of lists. No condition. -/
set_option linter.unusedVariables false
set_option linter.unusedSimpArgs false
namespace Go.Proofs.Yteobnbichpadjab.Gen
open Go.RowKit Go.Proofs.YteobnbichpadjabW.PrintWords Go.Proofs.YteobnbichpadjabW.PrintMore

theorem loop {S R : Type} (g : Nat → S → Option R) (μ : S → Nat) (Inv : S → Prop) (Q : R → Prop)
    (step : ∀ s, Inv s → (∃ r, Q r ∧ Ev (fun k => g k s) r) ∨ ∃ s', Inv s' ∧ μ s' < μ s ∧ ∃ K, ∀ k, K ≤ k → g (k + 1) s = g k s') :
    ∀ s, Inv s → ∃ r, Q r ∧ Ev (fun k => g k s) r := by
  intro s
  induction hm : μ s using Nat.strongRecOn generalizing s with
  | _ m ih =>
    intro hs
    rcases step s hs with h | ⟨s', hs', hlt, K, hK⟩
    · exact h
    · obtain ⟨r, hq, K', hr⟩ := ih (μ s') (hm ▸ hlt) s' rfl hs'
      refine ⟨r, hq, max K K' + 1, fun k hk => ?_⟩
      obtain ⟨j, rfl⟩ : ∃ j, k = j + 1 := ⟨k - 1, by omega⟩
      show g (j + 1) s = some r
      rw [hK j (by omega)]
      exact hr j (by omega)

/-- A loop whose answer is known. -/
theorem loopEq {S R : Type} (g : Nat → S → Option R) (μ : S → Nat) (Inv : S → Prop) (r : R)
    (step : ∀ s, Inv s → Ev (fun k => g k s) r ∨ ∃ s', Inv s' ∧ μ s' < μ s ∧ ∃ K, ∀ k, K ≤ k → g (k + 1) s = g k s') :
    ∀ s, Inv s → Ev (fun k => g k s) r := by
  intro s hs
  obtain ⟨q, rfl, h⟩ := loop g μ Inv (fun q => q = r) (fun s hs => by
    rcases step s hs with h | h
    · exact .inl ⟨r, rfl, h⟩
    · exact .inr h) s hs
  exact h

theorem Ev_succ {R : Type} {g : Nat → Option R} {r : R} (h : ∀ k, g (k + 1) = some r) : Ev g r :=
  Ev.step (f := fun _ => some r) h (Ev.now r)

theorem evPos {R : Type} {c : Prop} [Decidable c] {g g' : Nat → Option R} {r : R} (hc : c) (h : Ev g r) : Ev (fun k => if c then g k else g' k) r := by
  simpa only [if_pos hc] using h
theorem evNeg {R : Type} {c : Prop} [Decidable c] {g g' : Nat → Option R} {r : R} (hc : ¬ c) (h : Ev g' r) : Ev (fun k => if c then g k else g' k) r := by
  simpa only [if_neg hc] using h
theorem ev_at {R : Type} {g : Nat → Option R} {r : R} (h : Ev g r) : ∃ K, ∀ k, K ≤ k → g k = some r := h

theorem w64 {x : Int} (h0 : -9223372036854775808 ≤ x) (h1 : x ≤ 9223372036854775807) : wrap64 x = x := by unfold wrap64; omega

theorem wf64 {x : Int} (h : (Lit.int .i64 x).wf = true) : -9223372036854775808 ≤ x ∧ x ≤ 9223372036854775807 := by
  simp [Lit.wf] at h
  exact ⟨h.1, h.2⟩

/-! lists -/
theorem rd_nat (xs : List Int) (i : Nat) : rd xs (i : Int) = xs.getD i 0 := by simp [rd]
theorem toNat_nat (i : Nat) : ((i : Int)).toNat = i := Int.toNat_natCast i

theorem getD_append_left {α} (xs ys : List α) (d : α) {i : Nat} (h : i < xs.length) : (xs ++ ys).getD i d = xs.getD i d := by
  simp [List.getD_eq_getElem?_getD, List.getElem?_append_left h]

/-- Copying element by element into a list of the same length. -/
theorem take_set_succ {α} (xs ys : List α) (d : α) (i : Nat) (hl : ys.length = xs.length) (hi : i < xs.length) (h : ys.take i = xs.take i) :
    (ys.set i (xs.getD i d)).take (i + 1) = xs.take (i + 1) := by
  apply List.ext_getElem?
  intro j
  have hj := congrArg (fun l => l[j]?) h
  simp only [List.getElem?_take] at hj ⊢
  by_cases h1 : j < i
  · simp [h1] at hj
    have : j < i + 1 := by omega
    simp [this, List.getElem?_set, show i ≠ j by omega, hj]
  · by_cases h2 : j = i
    · subst h2
      simp [List.getElem?_set, hl, hi, List.getD_eq_getElem?_getD]
    · have : ¬ j < i + 1 := by omega
      simp [this]

theorem eq_of_take {α} (xs ys : List α) (hl : ys.length = xs.length) (h : ys.take xs.length = xs.take xs.length) : ys = xs := by
  rw [List.take_of_length_le (by omega), List.take_of_length_le (by omega)] at h
  exact h

/-- The numbers from a on. -/
def marks (a : Int) (n : Nat) : List Int := (List.range n).map fun (j : Nat) => a + (j : Int)
theorem marks_length (a : Int) (n : Nat) : (marks a n).length = n := by simp [marks]
theorem marks_get (a : Int) (n i : Nat) (h : i < n) : (marks a n).getD i 0 = a + (i : Int) := by
  simp [marks, List.getD_eq_getElem?_getD, h]

/-- A counting loop whose state is known at each round. -/
theorem count {S R : Type} (g : Nat → Int → S → Option R) (n : Nat) (st : Nat → S) (r : R)
    (step : ∀ j, j < n → ∃ K, ∀ k, K ≤ k → g (k + 1) (j : Int) (st j) = g k ((j + 1 : Nat) : Int) (st (j + 1)))
    (last : Ev (fun k => g k (n : Int) (st n)) r) : ∀ j, j ≤ n → Ev (fun k => g k (j : Int) (st j)) r := by
  intro j hj
  induction hd : n - j generalizing j with
  | zero =>
    obtain rfl : j = n := by omega
    exact last
  | succ d ih =>
    obtain ⟨K, hK⟩ := step j (by omega)
    obtain ⟨K', h'⟩ := ih (j + 1) (by omega) (by omega)
    refine ⟨max K K' + 1, fun k hk => ?_⟩
    obtain ⟨m, rfl⟩ : ∃ m, k = m + 1 := ⟨k - 1, by omega⟩
    show g (m + 1) (j : Int) (st j) = some r
    rw [hK m (by omega)]
    exact h' m (by omega)

/-- A loop that may end early: what it answers from each place on is known. -/
theorem scan {R : Type} (g : Nat → Int → Option R) (n : Nat) (res : Nat → R)
    (step : ∀ j, j < n → (res j = res (j + 1) ∧ ∃ K, ∀ k, K ≤ k → g (k + 1) (j : Int) = g k ((j + 1 : Nat) : Int)) ∨ Ev (fun k => g k (j : Int)) (res j))
    (last : Ev (fun k => g k (n : Int)) (res n)) : ∀ j, j ≤ n → Ev (fun k => g k (j : Int)) (res j) := by
  intro j hj
  induction hd : n - j generalizing j with
  | zero =>
    obtain rfl : j = n := by omega
    exact last
  | succ d ih =>
    rcases step j (by omega) with ⟨e, K, hK⟩ | h
    · obtain ⟨K', h'⟩ := ih (j + 1) (by omega) (by omega)
      refine ⟨max K K' + 1, fun k hk => ?_⟩
      obtain ⟨m, rfl⟩ : ∃ m, k = m + 1 := ⟨k - 1, by omega⟩
      show g (m + 1) (j : Int) = some (res j)
      rw [hK m (by omega), e]
      exact h' m (by omega)
    · exact h

/-- A scan where each place's answer follows from the next one's. -/
theorem scanE {R : Type} (g : Nat → Int → Option R) (n : Nat) (res : Nat → R)
    (step : ∀ j, j < n → Ev (fun k => g k ((j + 1 : Nat) : Int)) (res (j + 1)) → Ev (fun k => g k (j : Int)) (res j))
    (fin : Ev (fun k => g k (n : Int)) (res n)) : ∀ j, j ≤ n → Ev (fun k => g k (j : Int)) (res j) := by
  have main : ∀ t j, n - j = t → j ≤ n → Ev (fun k => g k (j : Int)) (res j) := by
    intro t
    induction t with
    | zero =>
      intro j h1 h2
      obtain rfl : j = n := by omega
      exact fin
    | succ t ih =>
      intro j h1 h2
      exact step j (by omega) (ih (j + 1) (by omega) (by omega))
  exact fun j hj => main _ j rfl hj

theorem all_drop {α} (l : List α) (p : α → Bool) (d : α) (j : Nat) (hj : j < l.length) : (l.drop j).all p = (p (l.getD j d) && (l.drop (j + 1)).all p) := by
  rw [List.drop_eq_getElem_cons hj, List.all_cons, List.getD_eq_getElem?_getD, List.getElem?_eq_getElem hj]
  rfl

/-- Are all of them from low to high? -/
def allIn (l : List Int) (lo hi : Int) : Bool := l.all fun x => decide (lo ≤ x) && decide (x ≤ hi)
theorem allIn_get {l : List Int} {lo hi : Int} (h : allIn l lo hi = true) (i : Nat) (hi' : i < l.length) : lo ≤ l.getD i 0 ∧ l.getD i 0 ≤ hi := by
  simp only [allIn, List.all_eq_true] at h
  have := h (l.getD i 0) (by rw [List.getD_eq_getElem?_getD, List.getElem?_eq_getElem hi']; exact List.getElem_mem hi')
  simpa using this

theorem up1 {j : Nat} (h : j < 4611686018427387904) : wrap64 ((j : Int) + 1) = ((j + 1 : Nat) : Int) := by unfold wrap64; omega

/-- The first j elements copied. -/
def mixed {α} (xs ys : List α) (j : Nat) : List α := xs.take j ++ ys.drop j
theorem mixed_length {α} (xs ys : List α) (j : Nat) (h : ys.length = xs.length) : (mixed xs ys j).length = xs.length := by simp [mixed]; omega
theorem mixed_zero {α} (xs ys : List α) : mixed xs ys 0 = ys := by simp [mixed]
theorem mixed_all {α} (xs ys : List α) (h : ys.length = xs.length) : mixed xs ys xs.length = xs := by simp [mixed, h]
theorem mixed_set {α} (xs ys : List α) (d : α) (j : Nat) (hl : ys.length = xs.length) (hj : j < xs.length) : (mixed xs ys j).set j (xs.getD j d) = mixed xs ys (j + 1) := by
  apply List.ext_getElem?
  intro i
  simp only [mixed, List.getElem?_set, List.getElem?_append, List.length_take, List.length_append, List.length_drop, List.getElem?_take, List.getElem?_drop, List.getD_eq_getElem?_getD]
  by_cases h1 : i < j
  · have : i < min j xs.length := by omega
    have h2 : i < min (j + 1) xs.length := by omega
    have h3 : i < j + 1 := by omega
    have h4 : ¬ j = i := by omega
    simp [this, h2, h1, h3, h4]
  · by_cases h2 : i = j
    · subst h2
      have h3 : i < min (i + 1) xs.length := by omega
      have h4 : i < min i xs.length + (ys.length - i) := by omega
      simp [h3, h4, List.getElem?_eq_getElem hj]
    · have h3 : ¬ i < min j xs.length := by omega
      have h4 : ¬ i < min (j + 1) xs.length := by omega
      have h5 : ¬ j = i := by omega
      simp only [h5, h3, h4, if_false]
      congr 1
      omega
theorem mixed_get_right {α} (xs ys : List α) (d : α) (j i : Nat) (hi : j ≤ i) (hj : j ≤ xs.length) : (mixed xs ys j).getD i d = ys.getD i d := by
  simp only [mixed, List.getD_eq_getElem?_getD]
  rw [List.getElem?_append_right (by simp; omega)]
  simp only [List.length_take, List.getElem?_drop]
  congr 2
  omega

/-- A list of n numbers told by a function. -/
def tab (n : Nat) (f : Nat → Int) : List Int := (List.range n).map f
theorem tab_length (n : Nat) (f : Nat → Int) : (tab n f).length = n := by simp [tab]
theorem tab_get (n : Nat) (f : Nat → Int) (i : Nat) (h : i < n) : (tab n f).getD i 0 = f i := by simp [tab, List.getD_eq_getElem?_getD, h]
theorem tab_succ (n : Nat) (f : Nat → Int) : tab (n + 1) f = tab n f ++ [f n] := by simp [tab, List.range_succ]

end Go.Proofs.Yteobnbichpadjab.Gen
end

section
/- Bounds: what the program's and the reference's tests of ranges answer. -/
set_option linter.unusedVariables false
set_option linter.unusedSimpArgs false
namespace Go.Proofs.Yteobnbichpadjab.Gen
open Go.RowKit Go.Proofs.Yteobnbichpadjab.Q Go.Proofs.Yteobnbichpadjab.Gen Go.Proofs.YteobnbichpadjabW.PrintWords Go.Proofs.YteobnbichpadjabW.PrintMore

def inS (a b c : Int) : Bool := decide (b ≤ a) && decide (a ≤ c)
theorem inS_iff (a b c : Int) : inS a b c = true ↔ b ≤ a ∧ a ≤ c := by simp [inS]
theorem l2In_s (a b c : Int) : spec_l2In.f a b c = some (inS a b c) := by
  unfold spec_l2In.f inS; by_cases h : a ≥ b <;> simp [h, show b ≤ a ↔ a ≥ b from Iff.rfl]
theorem in_s (a b c : Int) : impl_in.f a b c = some (inS a b c) := by
  unfold impl_in.f inS; by_cases h : a ≥ b <;> simp [h, show b ≤ a ↔ a ≥ b from Iff.rfl]
end Go.Proofs.Yteobnbichpadjab.Gen
end

section
/- The drawing of arguments out of bytes: each of these functions ends, and what it draws lies in its range; no condition. -/
set_option linter.unusedVariables false
set_option linter.unusedSimpArgs false
namespace Go.Proofs.Yteobnbichpadjab.Draw
open Go.RowKit Go.Proofs.Yteobnbichpadjab.Q Go.Proofs.Yteobnbichpadjab.Gen Go.Proofs.YteobnbichpadjabW.PrintWords Go.Proofs.YteobnbichpadjabW.PrintMore

/-- The bytes that are drawn from. -/
structure Src (l : List Int) : Prop where
  len : l.length ≤ 1048576
  byte : ∀ x ∈ l, 0 ≤ x ∧ x ≤ 255
/-- A place in them. -/
def At (l : List Int) (p : Int) : Prop := 0 ≤ p ∧ p ≤ l.length

theorem Src.rd_ {l : List Int} (h : Src l) (i : Int) : 0 ≤ rd l i ∧ rd l i ≤ 255 := by
  unfold rd
  rw [List.getD_eq_getElem?_getD]
  by_cases hi : i.toNat < l.length
  · rw [List.getElem?_eq_getElem hi]; exact h.byte _ (List.getElem_mem hi)
  · rw [List.getElem?_eq_none (by omega)]; decide

theorem wrap64_range (x : Int) : -9223372036854775808 ≤ wrap64 x ∧ wrap64 x ≤ 9223372036854775807 := by unfold wrap64; omega

theorem next_ok {l : List Int} (h : Src l) {p : Int} (hp : At l p) : ∃ v q, spec_l1Rd_next.f l p = some (v, q) ∧ 0 ≤ v ∧ v ≤ 255 ∧ At l q := by
  unfold At at hp
  have hl := h.len
  unfold spec_l1Rd_next.f
  by_cases c : p ≥ (l.length : Int)
  · rw [if_pos c]
    exact ⟨_, _, rfl, by omega, by omega, hp⟩
  · have hr := h.rd_ p
    rw [if_neg c, w64 (x := p + 1) (by omega) (by omega), w64 (x := p + 1 - 1) (by omega) (by omega), show p + 1 - 1 = p by omega, if_pos (by omega), if_pos (by omega), w64 (x := rd l p) (by omega) (by omega)]
    exact ⟨_, _, rfl, by omega, by omega, by unfold At; omega⟩
theorem below_ok {l : List Int} (h : Src l) {p : Int} (hp : At l p) (n : Int) (hn : 1 ≤ n) : ∃ v q, spec_l1Rd_below.f l p n = some (v, q) ∧ 0 ≤ v ∧ v < n ∧ At l q := by
  unfold spec_l1Rd_below.f
  by_cases c : n ≤ 1
  · rw [if_pos c]
    exact ⟨_, _, rfl, by omega, by omega, hp⟩
  · rw [if_neg c]
    obtain ⟨v, q, e, v0, v1, hq⟩ := next_ok h hp
    by_cases d : n ≤ 256
    · rw [if_pos d, e, Option.bind_some, if_neg (by omega)]
      exact ⟨_, _, rfl, Int.tmod_nonneg _ v0, Int.tmod_lt_of_pos _ (by omega), hq⟩
    · obtain ⟨v', q', e', v0', v1', hq'⟩ := next_ok h hq
      rw [if_neg d, e, Option.bind_some, e', Option.bind_some, if_neg (by omega), w64 (x := v * 256) (by omega) (by omega), w64 (by omega) (by omega)]
      exact ⟨_, _, rfl, Int.tmod_nonneg _ (by omega), Int.tmod_lt_of_pos _ (by omega), hq'⟩
theorem size_ok {l : List Int} (h : Src l) {p : Int} (hp : At l p) (per most : Int) (h1 : 1 ≤ per) (h2 : 1 ≤ most) (h3 : most ≤ 1048576) : ∃ v q, spec_l1Rd_size.f l p per most = some (v, q) ∧ 1 ≤ v ∧ v ≤ most ∧ At l q := by
  unfold spec_l1Rd_size.f
  have hl := h.len
  have d0 : 0 ≤ (l.length : Int) / per := Int.ediv_nonneg (by omega) (by omega)
  have d1 : (l.length : Int) / per ≤ l.length := Int.ediv_le_self _ (by omega)
  rw [if_neg (by omega), w64 (x := (l.length : Int) / per) (by omega) (by omega), w64 (by omega) (by omega)]
  by_cases c : 1 + (l.length : Int) / per > most
  · obtain ⟨v, q, e, v0, v1, hq⟩ := below_ok h hp most h2
    rw [if_pos c, e, Option.bind_some, w64 (by omega) (by omega)]
    exact ⟨_, _, rfl, by omega, by omega, hq⟩
  · obtain ⟨v, q, e, v0, v1, hq⟩ := below_ok h hp (1 + (l.length : Int) / per) (by omega)
    rw [if_neg c, e, Option.bind_some, w64 (by omega) (by omega)]
    exact ⟨_, _, rfl, by omega, by omega, hq⟩

end Go.Proofs.Yteobnbichpadjab.Draw
end

section
/- Arguments of any shape, opened: what a datum's reading says of its cells, by kinds; no condition. -/
set_option linter.unusedVariables false
set_option linter.unusedSimpArgs false
namespace Go.Proofs.Yteobnbichpadjab.Opens
open Go.RowKit Go.Proofs.YteobnbichpadjabW.PrintWords Go.Deep

section
variable {H : Type} {enc : TypeId × Value → H} {P : Program} {w : World} {base : Nat} {spare : Nat → Bool} {held : Bool}
/-- Whatever is read as type t is told by the kind d. -/
def Opn (enc : TypeId × Value → H) (P : Program) (w : World) (base : Nat) (spare : Nat → Bool) (held : Bool) (t : TypeId) {α : Type} (d : Kd α) : Prop :=
  ∀ (fuel : Nat) (cs : List Value) (x : DataW H × List MemPlace), DataW.trod enc P w base spare held fuel t cs = some x → ∃ a : α, d.K w a cs

theorem opn_int {t : TypeId} {k : IntKind} (ht : P.underlying t = some (.int k)) : Opn enc P w base spare held t (Kd.int k) := fun fuel cs x h => by
  obtain ⟨n, rfl, _⟩ := DataW.trod_int ht h
  exact ⟨n, rfl⟩
theorem opn_bool {t : TypeId} (ht : P.underlying t = some .bool) : Opn enc P w base spare held t Kd.bool := fun fuel cs x h => by
  obtain ⟨b, rfl, _⟩ := DataW.trod_bool ht h
  exact ⟨b, rfl⟩
theorem opn_string {t : TypeId} (ht : P.underlying t = some .string) : Opn enc P w base spare held t Kd.string := fun fuel cs x h => by
  obtain ⟨s, rfl, _⟩ := DataW.trod_string ht h
  exact ⟨s, rfl⟩

theorem opn_slice {α : Type} (z : α) {d : Kd α} {t e : TypeId} (ht : P.underlying t = some (.slice e)) (hs : P.cellsOf e = d.sz) (h : Opn enc P w base spare held e d) : Opn enc P w base spare held t (Kd.slice e d) := by
  intro fuel cs x hx
  rcases open_slice ht hx with ⟨rfl, _⟩ | ⟨a, len, cap, m, n, D, Pl, rfl, _, hl, hm, hmm, _, hel⟩
  · exact ⟨[], none, 0, rfl, Nat.le_refl _, Kd.C_nil _ _⟩
  have hle : len ≤ m := by rw [hmm]; split <;> omega
  haveI : Inhabited α := ⟨z⟩
  obtain ⟨f, hf⟩ := choose_lt (α := α) (n := len) (p := fun i x => ∃ cs', w.cells? base (a.add (i * P.cellsOf e)) (P.cellsOf e) = some cs' ∧ d.K w x cs') (fun i hi => by
    obtain ⟨cs', h1, h2⟩ := hel i (by omega)
    obtain ⟨x, hk⟩ := h n cs' _ h2
    exact ⟨x, cs', h1, hk⟩)
  refine ⟨(List.range len).map f, some a, cap, by simp, by simpa using hl, ?_⟩
  refine ⟨by simp, by unfold maxLen at hm; simp; omega, fun hp => ⟨a, rfl, fun j p hj => ?_⟩⟩
  have hj' : j < len := by have := (List.getElem?_eq_some_iff.1 hj).1; simpa using this
  simp [hj'] at hj
  obtain ⟨cs', h1, h2⟩ := hf j hj'
  subst hj
  refine ⟨cs', d.K_len h2, h2, fun i u hu => ?_⟩
  obtain ⟨_, hlen, hcell⟩ := World.cells?_some h1
  have hi : i < P.cellsOf e := by have := (List.getElem?_eq_some_iff.1 hu).1; omega
  rw [← hs, ← Go.Deep.add_add, hcell i hi]
  exact hu

/-- Two in line, at a place of the cells. -/
theorem pair_at {α β : Type} {a : Kd α} {b : Kd β} {x : α} {y : β} {cs : List Value} (off s : Nat) (h0 : a.K w x ((cs.drop off).take s)) (h1 : b.K w y (cs.drop (off + s))) : (Kd.pair a b).K w (x, y) (cs.drop off) :=
  ⟨(cs.drop off).take s, (cs.drop off).drop s, (List.take_append_drop _ _).symm, h0, by rw [List.drop_drop]; exact h1⟩
theorem last_at {α : Type} {a : Kd α} {x : α} {cs : List Value} (off s : Nat) (hl : cs.length = off + s) (h0 : a.K w x ((cs.drop off).take s)) : a.K w x (cs.drop off) := by
  rwa [List.take_of_length_le (by simp; omega)] at h0
/-- A field's reading. -/
theorem field_at {α : Type} {d : Kd α} {t off s n : Nat} {cs : List Value} {y : Option (DataW H × List MemPlace)} (h : Opn enc P w base spare held t d) (hs : P.cellsOf t = s) (hy : ∃ z, y = some z)
    (hf : DataW.trod enc P w base spare held n t ((cs.drop off).take (P.cellsOf t)) = y) : ∃ a : α, d.K w a ((cs.drop off).take s) := by
  obtain ⟨z, rfl⟩ := hy
  subst hs
  exact h n _ _ hf
end

/-- A slice that came in. -/
theorem slice_in {H : Type} {enc : TypeId × Value → H} {P : Program} {w : World} {base : Nat} {spare : Nat → Bool} {held : Bool} {α : Type} {d : Kd α} {t e : TypeId} {a : Option Addr} {len cap : Nat} {D : DataW H} {p : List MemPlace}
    (h : Opn enc P w base spare held t (Kd.slice e d)) (hd : DataW.Trod enc P w base spare held t (.slice a len cap) D p) :
    ∃ l : List α, len = l.length ∧ l.length ≤ cap ∧ l.length ≤ 9223372036854775807 ∧ d.C w a l.length l := by
  obtain ⟨fuel, hf⟩ := hd
  obtain ⟨l, A, c, he, hl, hC⟩ := h fuel _ _ hf
  simp [Value.cells] at he
  obtain ⟨rfl, rfl, rfl⟩ := he
  exact ⟨l, rfl, hl, hC.2.1, hC⟩
/-- A struct that came in. -/
theorem struct_in {H : Type} {enc : TypeId × Value → H} {P : Program} {w : World} {base : Nat} {spare : Nat → Bool} {held : Bool} {α : Type} {d : Kd α} {t : TypeId} {cs : Array Value} {D : DataW H} {p : List MemPlace}
    (h : Opn enc P w base spare held t d) (hd : DataW.Trod enc P w base spare held t (.agg cs) D p) : ∃ x : α, d.K w x cs.toList := by
  obtain ⟨fuel, hf⟩ := hd
  exact h fuel _ _ hf
theorem agg_of {cs : Array Value} {l : List Value} (h : cs.toList = l) : cs = l.toArray := by rw [← h]
/-- An element of a row that is read. -/
theorem row_K {α : Type} {d : Kd α} {w : World} {A : Option Addr} {n : Nat} {xs : List α} (h : d.C w A n xs) {x : α} (hx : x ∈ xs) : ∃ cs, d.K w x cs := by
  obtain ⟨j, hj, rfl⟩ := List.mem_iff_getElem.mp hx
  obtain ⟨ad, _, hc⟩ := h.2.2 (by have := h.1; omega)
  obtain ⟨c, _, hr, _⟩ := hc j _ (List.getElem?_eq_getElem hj)
  exact ⟨c, hr⟩
end Go.Proofs.Yteobnbichpadjab.Opens
end

section
/- Floats among the arguments, opened; no condition. -/
set_option linter.unusedVariables false
set_option linter.unusedSimpArgs false
namespace Go.Proofs.Yteobnbichpadjab.Opens
open Go.RowKit Go.Proofs.YteobnbichpadjabW.PrintWords Go.Proofs.YteobnbichpadjabW.PrintFlt Go.Deep
section
variable {H : Type} {enc : TypeId × Value → H} {P : Program} {w : World} {base : Nat} {spare : Nat → Bool} {held : Bool} {t : TypeId}
theorem trod_flt {fuel : Nat} {cs : List Value} {x : DataW H × List MemPlace} {k : FloatKind} (ht : P.underlying t = some (.float k)) (h : DataW.trod enc P w base spare held fuel t cs = some x) : ∃ b, cs = [.float k b] := by
  cases fuel with
  | zero => simp [DataW.trod] at h
  | succ n =>
    unfold DataW.trod at h
    rw [ht] at h
    split at h <;> simp_all
theorem opn_float (ht : P.underlying t = some (.float .f64)) : Opn enc P w base spare held t Kd.flt := fun fuel cs x h => by
  obtain ⟨b, rfl⟩ := trod_flt ht h
  exact ⟨cn b, b, by rw [un_cn]⟩
end
end Go.Proofs.Yteobnbichpadjab.Opens
end

section
/- The plain statement of the law FnDealt: of drawn entries no slot has more than the budget, and one that has no slot would have had room in none; no condition. -/
set_option linter.unusedVariables false
set_option linter.unusedSectionVars false
set_option linter.unusedSimpArgs false
namespace Go.Proofs.Yteobnbichpadjab.Pure
open Go.RowKit Go.Proofs.Yteobnbichpadjab.Q Go.Proofs.Yteobnbichpadjab.Gen Go.Proofs.Yteobnbichpadjab.Draw Go.Proofs.YteobnbichpadjabW.PrintWords Go.Proofs.YteobnbichpadjabW.PrintMore

theorem l2Time_s (a : Int) : spec_l2Time.f a = some (inS a 0 52596000) := by
  unfold spec_l2Time.f inS
  by_cases c : a ≥ 0
  · rw [if_pos c, decide_eq_true (show (0 : Int) ≤ a from c), Bool.true_and]
  · rw [if_neg c, decide_eq_false (show ¬ (0 : Int) ≤ a from c), Bool.false_and]
theorem isTime_s (a : Int) : impl_isTime.f a = some (inS a 0 52596000) := by
  unfold impl_isTime.f
  rw [in_s, Option.bind_some]

/-! entries that are well formed -/
theorem param_both (p : ByteArray) (hp : p.size ≤ 1000) : ∃ b, Ev (fun k => spec_l25ParamOk.f k p) b ∧ Ev (fun k => impl_paramOk.f k p) b ∧ ((∀ j : Nat, j < p.size → 97 ≤ bt p (j : Int) ∧ bt p (j : Int) ≤ 122) → 1 ≤ p.size → p.size ≤ 4 → b = true) := by
  have main : ∀ t j, j + t = p.size → ∃ b, Ev (fun k => spec_l25ParamOk.l0 k p (j : Int)) b ∧ Ev (fun k => impl_paramOk.l0 k p (j : Int)) b ∧ ((∀ j : Nat, j < p.size → 97 ≤ bt p (j : Int) ∧ bt p (j : Int) ≤ 122) → 1 ≤ p.size → p.size ≤ 4 → b = true) := by
    intro t
    induction t with
    | zero =>
      intro j hj
      refine ⟨inS (p.size : Int) 1 4, Ev.step (fun k => spec_l25ParamOk.l0.eq_2 _ _ k) (evNeg (by omega) ?_), Ev.step (fun k => impl_paramOk.l0.eq_2 _ _ k) (evNeg (by omega) ?_), fun _ h1 h2 => (inS_iff _ _ _).2 ⟨by omega, by omega⟩⟩
      · exact ⟨0, fun k _ => l2In_s (p.size : Int) 1 4⟩
      · simp only [in_s, Option.bind_some]
        exact Ev.now _
    | succ t ih =>
      intro j hj
      have u := up1 (j := j) (by omega)
      replace u := Aside0.mk u
      by_cases c1 : bt p (j : Int) < 97
      · exact ⟨false, Ev.step (fun k => spec_l25ParamOk.l0.eq_2 _ _ k) (evPos (by omega) (evPos (by omega) (evPos c1 (Ev.now _)))), Ev.step (fun k => impl_paramOk.l0.eq_2 _ _ k) (evPos (by omega) (evPos (by omega) (evPos c1 (Ev.now _)))), fun h => by have := h j (by omega); omega⟩
      by_cases c2 : bt p (j : Int) > 122
      · exact ⟨false, Ev.step (fun k => spec_l25ParamOk.l0.eq_2 _ _ k) (evPos (by omega) (evPos (by omega) (evNeg c1 (evPos c2 (Ev.now _))))), Ev.step (fun k => impl_paramOk.l0.eq_2 _ _ k) (evPos (by omega) (evPos (by omega) (evNeg c1 (evPos c2 (Ev.now _))))), fun h => by have := h j (by omega); omega⟩
      obtain ⟨b, h1, h2, h3⟩ := ih (j + 1) (by omega)
      refine ⟨b, Ev.step (fun k => spec_l25ParamOk.l0.eq_2 _ _ k) (evPos (by omega) (evPos (by omega) (evNeg c1 (evNeg c2 ?_)))), Ev.step (fun k => impl_paramOk.l0.eq_2 _ _ k) (evPos (by omega) (evPos (by omega) (evNeg c1 (evNeg c2 ?_)))), h3⟩
      · rw [u.out]; exact h1
      · rw [u.out]; exact h2
  exact main p.size 0 (by omega)
theorem entry_both (e : S31) (h : e.f0.size ≤ 1000) : ∃ b, Ev (fun k => spec_l25EntryOk.f k e.f0 e.f1 e.f2 e.f3 e.f4) b ∧ Ev (fun k => impl_entryOk.f k e.f0 e.f1 e.f2 e.f3 e.f4) b := by
  obtain ⟨b, h1, h2, _⟩ := param_both e.f0 h
  simp only [spec_l25EntryOk.f, impl_entryOk.f, l2Time_s, isTime_s, l2In_s, in_s, Option.bind_some]
  cases b with
  | false => exact ⟨false, Ev.bind h1 (evNeg (by decide) (Ev.now _)), Ev.bind h2 (evNeg (by decide) (Ev.now _))⟩
  | true =>
    by_cases c1 : inS e.f1 0 52596000 = true
    rotate_left
    · exact ⟨false, Ev.bind h1 (evPos rfl (evNeg c1 (Ev.now _))), Ev.bind h2 (evPos rfl (evNeg c1 (Ev.now _)))⟩
    by_cases c2 : inS e.f2 0 360 = true
    rotate_left
    · exact ⟨false, Ev.bind h1 (evPos rfl (evPos c1 (evNeg c2 (Ev.now _)))), Ev.bind h2 (evPos rfl (evPos c1 (evNeg c2 (Ev.now _))))⟩
    by_cases c3 : inS e.f3 0 1100 = true
    rotate_left
    · exact ⟨false, Ev.bind h1 (evPos rfl (evPos c1 (evPos c2 (evNeg c3 (Ev.now _))))), Ev.bind h2 (evPos rfl (evPos c1 (evPos c2 (evNeg c3 (Ev.now _)))))⟩
    exact ⟨_, Ev.bind h1 (evPos rfl (evPos c1 (evPos c2 (evPos c3 (Ev.now _))))), Ev.bind h2 (evPos rfl (evPos c1 (evPos c2 (evPos c3 (Ev.now _)))))⟩

/-! the first slot with room -/
def fnd (used : List Int) (z b : Int) : Nat → Nat → Option Nat
  | 0, _ => none
  | t + 1, j => if wrap64 (rd used (j : Int) + z) ≤ b then some j else fnd used z b t (j + 1)
def upd (used : List Int) (z : Int) : Option Nat → List Int
  | none => used
  | some q => used.set q (wrap64 (rd used (q : Int) + z))
def ix : Option Nat → Int
  | some q => (q : Int)
  | none => -1
theorem upd_len (used : List Int) (z : Int) (m : Option Nat) : (upd used z m).length = used.length := by
  cases m <;> simp [upd]
theorem fnd_some {used : List Int} {z b : Int} : ∀ {t j q : Nat}, fnd used z b t j = some q → j ≤ q ∧ q < j + t ∧ wrap64 (rd used (q : Int) + z) ≤ b ∧ ∀ s : Nat, j ≤ s → s < q → ¬ wrap64 (rd used (s : Int) + z) ≤ b := by
  intro t
  induction t with
  | zero => intro j q h; cases h
  | succ t ih =>
    intro j q h
    unfold fnd at h
    by_cases c : wrap64 (rd used (j : Int) + z) ≤ b
    · rw [if_pos c] at h
      obtain rfl : j = q := Option.some.inj h
      exact ⟨Nat.le_refl _, by omega, c, fun s h1 h2 => by omega⟩
    · rw [if_neg c] at h
      obtain ⟨h1, h2, h3, h4⟩ := ih h
      refine ⟨by omega, by omega, h3, fun s s1 s2 => ?_⟩
      by_cases e : s = j
      · subst e; exact c
      · exact h4 s (by omega) s2
theorem fnd_none {used : List Int} {z b : Int} : ∀ {t j : Nat}, fnd used z b t j = none → ∀ s : Nat, j ≤ s → s < j + t → ¬ wrap64 (rd used (s : Int) + z) ≤ b := by
  intro t
  induction t with
  | zero => intro j h s h1 h2; omega
  | succ t ih =>
    intro j h s h1 h2
    unfold fnd at h
    by_cases c : wrap64 (rd used (j : Int) + z) ≤ b
    · rw [if_pos c] at h; cases h
    · rw [if_neg c] at h
      by_cases e : s = j
      · subst e; exact c
      · exact ih h s (by omega) (by omega)
theorem deal1_s (a : Int) (e : S31) (b : Int) : impl_Deal_1.f a [e] [b] = some (decide (wrap64 (a + e.f4) ≤ b)) := by
  unfold impl_Deal_1.f
  rw [if_pos (by simp), if_pos (by simp)]
  rfl
theorem index_ev (e : S31) (b : Int) (used : List Int) (hu : used.length ≤ 1000) : ∀ t j, j + t = used.length → Ev (fun k => slices_IndexFunc_int64_int64_impl_Deal_1.l0 k used (used.length : Int) (j : Int) [e] [b]) (ix (fnd used e.f4 b t j)) := by
  intro t
  induction t with
  | zero => intro j hj; exact Ev.step (fun k => slices_IndexFunc_int64_int64_impl_Deal_1.l0.eq_2 _ _ _ _ _ k) (evNeg (by omega) (Ev.now _))
  | succ t ih =>
    intro j hj
    have u := up1 (j := j) (by omega)
    replace u := Aside0.mk u
    refine Ev.step (fun k => slices_IndexFunc_int64_int64_impl_Deal_1.l0.eq_2 _ _ _ _ _ k) (evPos (by omega) (evPos (by omega) (evPos (by omega) ?_)))
    simp only [deal1_s, Option.bind_some]
    unfold fnd
    by_cases c : wrap64 (rd used (j : Int) + e.f4) ≤ b
    · rw [if_pos c, decide_eq_true c]; exact evPos rfl (Ev.now _)
    · rw [if_neg c, decide_eq_false c, u.out]; exact evNeg (by decide) (ih (j + 1) (by omega))

/-! dealing -/
section
variable (D : List S31) (b : Int) (n : Nat) (hD : D.length ≤ 300) (hn : n ≤ 1000)
include hD hn
theorem spec_append (x8 used : List Int) (i : Nat) (hi : i < D.length) (hx : x8.length ≤ 1000) (v s : Int) (X : List Int × Bool) (h : Ev (fun k => spec_Deal.l0 k D b (n : Int) (x8 ++ [v]) used ((i + 1 : Nat) : Int)) X) : Ev (fun k => spec_Deal.j3 k D b (n : Int) x8 used (i : Int) v s false) X := by
  have u := up1 (j := i) (by omega)
  replace u := Aside0.mk u
  refine Ev.step (fun k => spec_Deal.j3.eq_2 _ _ _ _ _ _ _ _ _ k) (evNeg (by decide) (evPos (by omega) ?_))
  rw [u.out]
  exact h
theorem spec_find (x8 used : List Int) (i : Nat) (hi : i < D.length) (hx : x8.length ≤ 1000) (hu : used.length = n) (X : List Int × Bool) : ∀ t j, j + t = n →
    Ev (fun k => spec_Deal.l0 k D b (n : Int) (x8 ++ [ix (fnd used (rd_T31 D (i : Int)).f4 b t j)]) (upd used (rd_T31 D (i : Int)).f4 (fnd used (rd_T31 D (i : Int)).f4 b t j)) ((i + 1 : Nat) : Int)) X →
    Ev (fun k => spec_Deal.l1 k D b (n : Int) x8 used (i : Int) (-1) (j : Int)) X := by
  intro t
  induction t with
  | zero =>
    intro j hj h
    exact Ev.step (fun k => spec_Deal.l1.eq_2 _ _ _ _ _ _ _ _ k) (evNeg (by omega) (spec_append D b n hD hn x8 used i hi hx (-1) (j : Int) X h))
  | succ t ih =>
    intro j hj h
    have u := up1 (j := j) (by omega)
    replace u := Aside0.mk u
    refine Ev.step (fun k => spec_Deal.l1.eq_2 _ _ _ _ _ _ _ _ k) (evPos (by omega) ?_)
    rw [show decide ((-1 : Int) < 0) = true from rfl]
    refine Ev.step (fun k => spec_Deal.j3.eq_2 _ _ _ _ _ _ _ _ _ k) (evPos rfl (evPos (by omega) (evPos (by omega) (evPos (by omega) (evPos (by omega) ?_)))))
    unfold fnd at h
    by_cases c : wrap64 (rd used (j : Int) + (rd_T31 D (i : Int)).f4) ≤ b
    · rw [if_pos c] at h
      refine evPos c ?_
      rw [u.out, Int.toNat_natCast]
      have h' := spec_append D b n hD hn x8 _ i hi hx (j : Int) ((j + 1 : Nat) : Int) X h
      by_cases d : ((j + 1 : Nat) : Int) < (n : Int)
      · refine Ev.step (fun k => spec_Deal.l1.eq_2 _ _ _ _ _ _ _ _ k) (evPos d ?_)
        rw [decide_eq_false (by omega)]
        exact h'
      · exact Ev.step (fun k => spec_Deal.l1.eq_2 _ _ _ _ _ _ _ _ k) (evNeg d h')
    · rw [if_neg c] at h
      refine evNeg c ?_
      rw [u.out]
      exact ih (j + 1) (by omega) h
/-- The slots in which the entries come to lie. -/
def outs (b : Int) (n : Nat) : List S31 → List Int → List Int
  | [], _ => []
  | e :: D, used => ix (fnd used e.f4 b n 0) :: outs b n D (upd used e.f4 (fnd used e.f4 b n 0))
omit hD hn in
theorem outs_len : ∀ (D : List S31) (used : List Int), (outs b n D used).length = D.length := by
  intro D
  induction D with
  | nil => intro _; rfl
  | cons e D ih => intro used; simp [outs, ih]
omit hD hn in
theorem drop_rd (i : Nat) (h : i < D.length) : D.drop i = rd_T31 D (i : Int) :: D.drop (i + 1) := by
  rw [List.drop_eq_getElem_cons h]
  congr 1
  simp [rd_T31, List.getD_eq_getElem?_getD, h]
theorem spec_all (okf : Nat → Bool) (hok : ∀ i, i < D.length → Ev (fun k => spec_l25EntryOk.f k (rd_T31 D (i : Int)).f0 (rd_T31 D (i : Int)).f1 (rd_T31 D (i : Int)).f2 (rd_T31 D (i : Int)).f3 (rd_T31 D (i : Int)).f4) (okf i)) : ∀ t i x8 used, i + t = D.length → x8.length = i → used.length = n →
    ((∀ j, i ≤ j → j < D.length → okf j = true) → Ev (fun k => spec_Deal.l0 k D b (n : Int) x8 used (i : Int)) (x8 ++ outs b n (D.drop i) used, true)) ∧ ((∃ j, i ≤ j ∧ j < D.length ∧ okf j = false) → Ev (fun k => spec_Deal.l0 k D b (n : Int) x8 used (i : Int)) ([], false)) := by
  intro t
  induction t with
  | zero =>
    intro i x8 used hi hx hu
    refine ⟨fun _ => ?_, fun ⟨j, h1, h2, _⟩ => by omega⟩
    rw [List.drop_eq_nil_of_le (by omega)]
    simp only [outs, List.append_nil]
    exact Ev.step (fun k => spec_Deal.l0.eq_2 _ _ _ _ _ _ k) (evNeg (by omega) (Ev.now _))
  | succ t ih =>
    intro i x8 used hi hx hu
    have e0 := hok i (by omega)
    have step : okf i = true → ∀ X, Ev (fun k => spec_Deal.l0 k D b (n : Int) (x8 ++ [ix (fnd used (rd_T31 D (i : Int)).f4 b n 0)]) (upd used (rd_T31 D (i : Int)).f4 (fnd used (rd_T31 D (i : Int)).f4 b n 0)) ((i + 1 : Nat) : Int)) X → Ev (fun k => spec_Deal.l0 k D b (n : Int) x8 used (i : Int)) X := by
      intro h X hX
      rw [h] at e0
      exact Ev.step (fun k => spec_Deal.l0.eq_2 _ _ _ _ _ _ k) (evPos (by omega) (evPos (by omega) (Ev.bind e0 (evPos rfl (spec_find D b n hD hn x8 used i (by omega) (by omega) hu X n 0 (by omega) hX)))))
    obtain ⟨g1, g2⟩ := ih (i + 1) (x8 ++ [ix (fnd used (rd_T31 D (i : Int)).f4 b n 0)]) (upd used (rd_T31 D (i : Int)).f4 (fnd used (rd_T31 D (i : Int)).f4 b n 0)) (by omega) (by simp; omega) (by rw [upd_len]; exact hu)
    refine ⟨fun h => ?_, fun ⟨j, h1, h2, h3⟩ => ?_⟩
    · rw [drop_rd D i (by omega)]
      have := g1 (fun j a c => h j (by omega) c)
      rw [List.append_assoc] at this
      exact step (h i (by omega) (by omega)) _ this
    · cases h : okf i with
      | true =>
        have hj : j ≠ i := fun e => by subst e; rw [h] at h3; cases h3
        exact step h _ (g2 ⟨j, by omega, h2, h3⟩)
      | false =>
        rw [h] at e0
        exact Ev.step (fun k => spec_Deal.l0.eq_2 _ _ _ _ _ _ k) (evPos (by omega) (evPos (by omega) (Ev.bind e0 (evNeg (by decide) (Ev.now _)))))
theorem impl_all : ∀ t i x8 used, i + t = D.length → x8.length = i → used.length = n → Ev (fun k => impl_Deal.l1 k used x8 D (D.length : Int) (i : Int) b) (x8 ++ outs b n (D.drop i) used, true) := by
  intro t
  induction t with
  | zero =>
    intro i x8 used hi hx hu
    rw [List.drop_eq_nil_of_le (by omega)]
    simp only [outs, List.append_nil]
    exact Ev.step (fun k => impl_Deal.l1.eq_2 _ _ _ _ _ _ k) (evNeg (by omega) (Ev.now _))
  | succ t ih =>
    intro i x8 used hi hx hu
    have u := up1 (j := i) (by omega)
    replace u := Aside0.mk u
    have g1 := ih (i + 1) (x8 ++ [ix (fnd used (rd_T31 D (i : Int)).f4 b n 0)]) (upd used (rd_T31 D (i : Int)).f4 (fnd used (rd_T31 D (i : Int)).f4 b n 0)) (by omega) (by simp; omega) (by rw [upd_len]; exact hu)
    rw [List.append_assoc] at g1
    rw [drop_rd D i (by omega)]
    have f := index_ev (rd_T31 D (i : Int)) b used (by omega) n 0 (by omega)
    refine Ev.step (fun k => impl_Deal.l1.eq_2 _ _ _ _ _ _ k) (evPos (by omega) (evPos (by omega) (evPos (by omega) ?_)))
    refine Ev.bind (show Ev (fun k => slices_IndexFunc_int64_int64_impl_Deal_1.f k used _ [b]) _ from f) ?_
    rw [u.out]
    unfold outs
    cases h : fnd used (rd_T31 D (i : Int)).f4 b n 0 with
    | none =>
      rw [h] at g1
      exact evNeg (by decide) (evPos (by omega) g1)
    | some q =>
      rw [h] at g1
      have hq := (fnd_some h).2.1
      exact evPos (show (q : Int) ≥ 0 by omega) (evPos (show 0 ≤ (q : Int) by omega) (evPos (show (q : Int) < (used.length : Int) by omega) (evPos (by omega) g1)))
theorem impl_look (okf : Nat → Bool) (hok : ∀ i, i < D.length → Ev (fun k => impl_entryOk.f k (rd_T31 D (i : Int)).f0 (rd_T31 D (i : Int)).f1 (rd_T31 D (i : Int)).f2 (rd_T31 D (i : Int)).f3 (rd_T31 D (i : Int)).f4) (okf i)) : ∀ t i, i + t = D.length →
    ((∀ j, i ≤ j → j < D.length → okf j = true) → Ev (fun k => impl_Deal.l0 k D (n : Int) D (D.length : Int) (i : Int) b) (outs b n D (List.replicate n 0), true)) ∧ ((∃ j, i ≤ j ∧ j < D.length ∧ okf j = false) → Ev (fun k => impl_Deal.l0 k D (n : Int) D (D.length : Int) (i : Int) b) ([], false)) := by
  intro t
  induction t with
  | zero =>
    intro i hi
    refine ⟨fun _ => ?_, fun ⟨j, h1, h2, _⟩ => by omega⟩
    refine Ev.step (fun k => impl_Deal.l0.eq_2 _ _ _ _ _ _ k) (evNeg (by omega) (evPos (by omega) (evPos (by omega) ?_)))
    rw [Int.toNat_natCast]
    exact impl_all D b n hD hn D.length 0 [] (List.replicate n 0) (by omega) rfl (by simp)
  | succ t ih =>
    intro i hi
    have u := up1 (j := i) (by omega)
    replace u := Aside0.mk u
    have e0 := hok i (by omega)
    obtain ⟨g1, g2⟩ := ih (i + 1) (by omega)
    have step : okf i = true → ∀ X, Ev (fun k => impl_Deal.l0 k D (n : Int) D (D.length : Int) ((i + 1 : Nat) : Int) b) X → Ev (fun k => impl_Deal.l0 k D (n : Int) D (D.length : Int) (i : Int) b) X := by
      intro h X hX
      rw [h] at e0
      refine Ev.step (fun k => impl_Deal.l0.eq_2 _ _ _ _ _ _ k) (evPos (by omega) (evPos (by omega) (evPos (by omega) (Ev.bind e0 (evPos rfl ?_)))))
      rw [u.out]
      exact hX
    refine ⟨fun h => step (h i (by omega) (by omega)) _ (g1 (fun j a c => h j (by omega) c)), fun ⟨j, h1, h2, h3⟩ => ?_⟩
    cases h : okf i with
    | true =>
      have hj : j ≠ i := fun e => by subst e; rw [h] at h3; cases h3
      exact step h _ (g2 ⟨j, by omega, h2, h3⟩)
    | false =>
      rw [h] at e0
      exact Ev.step (fun k => impl_Deal.l0.eq_2 _ _ _ _ _ _ k) (evPos (by omega) (evPos (by omega) (evPos (by omega) (Ev.bind e0 (evNeg (by decide) (Ev.now _))))))

/-! the law's own look -/
theorem law_last (out used : List Int) (i s : Nat) (hi : i < D.length) (ho : out.length = D.length) (hu : used.length = n) (m : Option Nat) (hm : fnd used (rd_T31 D (i : Int)).f4 b n 0 = m) (hr : rd out (i : Int) = ix m) (h : Ev (fun k => laws_FnDealt.l0 k D b (n : Int) out (upd used (rd_T31 D (i : Int)).f4 m) ((i + 1 : Nat) : Int)) true) : Ev (fun k => laws_FnDealt.j3 k D b (n : Int) out used (i : Int) (s : Int) false) true := by
  have u := up1 (j := i) (by omega)
  replace u := Aside0.mk u
  refine Ev.step (fun k => laws_FnDealt.j3.eq_2 _ _ _ _ _ _ _ _ k) (evNeg (by decide) (evPos (by omega) (evPos (by omega) ?_)))
  rw [u.out]
  simp only [hr]
  cases m with
  | none => exact evNeg (by decide) h
  | some q =>
    have hq := fnd_some hm
    refine evPos (show (q : Int) ≥ 0 by omega) (evPos (show 0 ≤ (q : Int) by omega) (evPos (show (q : Int) < (used.length : Int) by omega) (evPos (by omega) ?_)))
    refine evNeg ?_ h
    have := hq.2.2.1
    show ¬ wrap64 (rd used (q : Int) + (rd_T31 D (i : Int)).f4) > b
    omega
theorem law_row (out used : List Int) (i : Nat) (hi : i < D.length) (ho : out.length = D.length) (hu : used.length = n) (m : Option Nat) (hm : fnd used (rd_T31 D (i : Int)).f4 b n 0 = m) (hr : rd out (i : Int) = ix m) (h : Ev (fun k => laws_FnDealt.l0 k D b (n : Int) out (upd used (rd_T31 D (i : Int)).f4 m) ((i + 1 : Nat) : Int)) true)
    (st : Nat) (hst : (m = none ∧ st = n) ∨ m = some st) : ∀ t s, s + t = st → Ev (fun k => laws_FnDealt.l1 k D b (n : Int) out used (i : Int) (s : Int)) true := by
  have hstn : st ≤ n := by
    rcases hst with ⟨_, h⟩ | h
    · omega
    · subst h; have := (fnd_some hm).2.1; omega
  have hno : ∀ s : Nat, s < st → ¬ wrap64 (rd used (s : Int) + (rd_T31 D (i : Int)).f4) ≤ b := by
    intro s hs
    rcases hst with ⟨h1, h2⟩ | h1
    · subst h1; exact fnd_none hm s (by omega) (by omega)
    · subst h1; exact (fnd_some hm).2.2.2 s (by omega) hs
  intro t
  induction t with
  | zero =>
    intro s hs
    have L := law_last D b n hD hn out used i s hi ho hu m hm hr h
    rcases hst with ⟨h1, h2⟩ | h1
    · exact Ev.step (fun k => laws_FnDealt.l1.eq_2 _ _ _ _ _ _ _ k) (evNeg (by omega) L)
    · have hq := (fnd_some (hm.trans h1)).2.1
      refine Ev.step (fun k => laws_FnDealt.l1.eq_2 _ _ _ _ _ _ _ k) (evPos (by omega) (evPos (by omega) (evPos (by omega) ?_)))
      rw [hr, h1]
      refine evNeg (show ¬ (st : Int) < 0 by omega) ?_
      rw [show decide ((s : Int) < ix (some st)) = false from decide_eq_false (show ¬ (s : Int) < (st : Int) by omega)]
      exact L
  | succ t ih =>
    intro s hs
    have u := up1 (j := s) (by omega)
    replace u := Aside0.mk u
    have T : Ev (fun k => laws_FnDealt.j3 k D b (n : Int) out used (i : Int) (s : Int) true) true := by
      refine Ev.step (fun k => laws_FnDealt.j3.eq_2 _ _ _ _ _ _ _ _ k) (evPos rfl (evPos (by omega) (evPos (by omega) (evPos (by omega) (evPos (by omega) (evNeg (hno s (by omega)) ?_))))))
      rw [u.out]
      exact ih (s + 1) (by omega)
    refine Ev.step (fun k => laws_FnDealt.l1.eq_2 _ _ _ _ _ _ _ k) (evPos (by omega) (evPos (by omega) (evPos (by omega) ?_)))
    rw [hr]
    rcases hst with ⟨h1, h2⟩ | h1
    · rw [h1]; exact evPos (by decide) T
    · rw [h1]
      refine evNeg (show ¬ (st : Int) < 0 by omega) ?_
      rw [show decide ((s : Int) < ix (some st)) = true from decide_eq_true (show (s : Int) < (st : Int) by omega)]
      exact T
theorem law_all (out : List Int) (ho : out.length = D.length) : ∀ t i used, i + t = D.length → used.length = n → out.drop i = outs b n (D.drop i) used → Ev (fun k => laws_FnDealt.l0 k D b (n : Int) out used (i : Int)) true := by
  intro t
  induction t with
  | zero => intro i used hi hu h; exact Ev.step (fun k => laws_FnDealt.l0.eq_2 _ _ _ _ _ _ k) (evNeg (by omega) (Ev.now _))
  | succ t ih =>
    intro i used hi hu h
    rw [drop_rd D i (by omega), List.drop_eq_getElem_cons (by omega)] at h
    unfold outs at h
    injection h with h1 h2
    have hr : rd out (i : Int) = ix (fnd used (rd_T31 D (i : Int)).f4 b n 0) := by
      rw [← h1, rd_nat, List.getD_eq_getElem?_getD, List.getElem?_eq_getElem (by omega)]
      rfl
    have nx := ih (i + 1) (upd used (rd_T31 D (i : Int)).f4 (fnd used (rd_T31 D (i : Int)).f4 b n 0)) (by omega) (by rw [upd_len]; exact hu) h2
    have R : ∀ st, ((fnd used (rd_T31 D (i : Int)).f4 b n 0 = none ∧ st = n) ∨ fnd used (rd_T31 D (i : Int)).f4 b n 0 = some st) → Ev (fun k => laws_FnDealt.j1 k D b (n : Int) out used (i : Int) false) true := fun st hst =>
      Ev.step (fun k => laws_FnDealt.j1.eq_2 _ _ _ _ _ _ _ k) (evNeg (by decide) (law_row D b n hD hn out used i (by omega) ho hu _ rfl hr nx st hst st 0 (by omega)))
    refine Ev.step (fun k => laws_FnDealt.l0.eq_2 _ _ _ _ _ _ k) (evPos (by omega) (evPos (by omega) ?_))
    rw [hr]
    cases c : fnd used (rd_T31 D (i : Int)).f4 b n 0 with
    | none =>
      refine evNeg (by decide) ?_
      rw [show decide (ix none ≥ (n : Int)) = false from decide_eq_false (show ¬ (-1 : Int) ≥ (n : Int) by omega)]
      exact R n (.inl ⟨c, rfl⟩)
    | some q =>
      have hq := (fnd_some c).2.1
      refine evNeg (show ¬ (q : Int) < -1 by omega) ?_
      rw [show decide (ix (some q) ≥ (n : Int)) = false from decide_eq_false (show ¬ (q : Int) ≥ (n : Int) by omega)]
      exact R q (.inr c)
end

theorem deal_both (D : List S31) (b s : Int) (hp : ∀ e ∈ D, e.f0.size ≤ 1000) : ∃ r : List Int × Bool, Ev (fun k => spec_Deal.f k D b s) r ∧ Ev (fun k => impl_Deal.f k D b s) r ∧ (r.2 = false → r.1 = []) ∧ (r.2 = true → r.1.length = D.length ∧ 0 ≤ s ∧ s ≤ 100 ∧ Ev (fun k => laws_FnDealt.l0 k D b s r.1 (List.replicate s.toNat 0) 0) true) := by
  have noS : Ev (fun k => spec_Deal.j0 k D b s [] true) ([], false) := Ev.step (fun k => spec_Deal.j0.eq_2 _ _ _ _ _ k) (evPos rfl (Ev.now _))
  have noI : Ev (fun k => impl_Deal.j0 k D s true b) ([], false) := Ev.step (fun k => impl_Deal.j0.eq_2 _ _ _ _ k) (evPos rfl (Ev.now _))
  simp only [spec_Deal.f, impl_Deal.f, l2In_s, in_s, Option.bind_some]
  by_cases c1 : (D.length : Int) > 300
  · exact ⟨([], false), evPos c1 noS, evPos c1 noI, fun _ => rfl, fun h => by cases h⟩
  by_cases c2 : inS b 0 1000000000000 = true
  rotate_left
  · exact ⟨([], false), evNeg c1 (evNeg c2 noS), evNeg c1 (evNeg c2 noI), fun _ => rfl, fun h => by cases h⟩
  by_cases c3 : inS s 1 100 = true
  rotate_left
  · rw [Bool.not_eq_true] at c3
    exact ⟨([], false), evNeg c1 (evPos c2 (by rw [c3]; exact noS)), evNeg c1 (evPos c2 (by rw [c3]; exact noI)), fun _ => rfl, fun h => by cases h⟩
  have d3 := (inS_iff _ _ _).1 c3
  obtain ⟨n, rfl⟩ := Int.eq_ofNat_of_zero_le (show 0 ≤ s by omega)
  obtain ⟨okf, hok⟩ := Classical.skolem.1 (show ∀ i : Nat, ∃ o : Bool, i < D.length → Ev (fun k => spec_l25EntryOk.f k (rd_T31 D (i : Int)).f0 (rd_T31 D (i : Int)).f1 (rd_T31 D (i : Int)).f2 (rd_T31 D (i : Int)).f3 (rd_T31 D (i : Int)).f4) o ∧ Ev (fun k => impl_entryOk.f k (rd_T31 D (i : Int)).f0 (rd_T31 D (i : Int)).f1 (rd_T31 D (i : Int)).f2 (rd_T31 D (i : Int)).f3 (rd_T31 D (i : Int)).f4) o from fun i => by
    by_cases hi : i < D.length
    · obtain ⟨o, h1, h2⟩ := entry_both (rd_T31 D (i : Int)) (by
        have e : rd_T31 D (i : Int) = D[i] := by simp [rd_T31, List.getD_eq_getElem?_getD, hi]
        rw [e]
        exact hp _ (List.getElem_mem hi))
      exact ⟨o, fun _ => ⟨h1, h2⟩⟩
    · exact ⟨false, fun h => absurd h hi⟩)
  obtain ⟨s1, s2⟩ := spec_all D b n (by omega) (by omega) okf (fun i h => (hok i h).1) D.length 0 [] (List.replicate n 0) (by omega) rfl (by simp)
  obtain ⟨i1, i2⟩ := impl_look D b n (by omega) (by omega) okf (fun i h => (hok i h).2) D.length 0 (by omega)
  have startS : ∀ X, Ev (fun k => spec_Deal.l0 k D b (n : Int) [] (List.replicate n 0) ((0 : Nat) : Int)) X → Ev (fun k => spec_Deal.j0 k D b (n : Int) [] (!inS (n : Int) 1 100)) X := fun X h => by
    rw [c3]
    refine Ev.step (fun k => spec_Deal.j0.eq_2 _ _ _ _ _ k) (evNeg (by decide) (evPos (by omega) (evPos (by omega) ?_)))
    rw [Int.toNat_natCast]
    exact h
  have startI : ∀ X, Ev (fun k => impl_Deal.l0 k D (n : Int) D (D.length : Int) ((0 : Nat) : Int) b) X → Ev (fun k => impl_Deal.j0 k D (n : Int) (!inS (n : Int) 1 100) b) X := fun X h => by
    rw [c3]
    exact Ev.step (fun k => impl_Deal.j0.eq_2 _ _ _ _ k) (evNeg (by decide) h)
  by_cases all : ∀ j, 0 ≤ j → j < D.length → okf j = true
  · refine ⟨(outs b n D (List.replicate n 0), true), evNeg c1 (evPos c2 (startS _ (s1 all))), evNeg c1 (evPos c2 (startI _ (i1 all))), fun h => (by cases h), fun _ => ⟨outs_len b n D _, by omega, by omega, ?_⟩⟩
    rw [Int.toNat_natCast]
    exact law_all D b n (by omega) (by omega) _ (outs_len b n D _) D.length 0 (List.replicate n 0) (by omega) (by simp) rfl
  · have bad : ∃ j, 0 ≤ j ∧ j < D.length ∧ okf j = false := by
      obtain ⟨j, h⟩ := Classical.not_forall.1 all
      exact ⟨j, by omega, by
        rcases Nat.lt_or_ge j D.length with g | g
        · exact g
        · exact absurd (fun _ h' => by omega) h, by
        cases e : okf j with
        | false => rfl
        | true => exact absurd (fun _ _ => e) h⟩
    exact ⟨([], false), evNeg c1 (evPos c2 (startS _ (s2 bad))), evNeg c1 (evPos c2 (startI _ (i2 bad))), fun _ => rfl, fun h => by cases h⟩

/-! what is drawn -/
def P5 : List ByteArray := [(⟨#[116]⟩ : ByteArray), (⟨#[117]⟩ : ByteArray), (⟨#[118]⟩ : ByteArray), (⟨#[109, 115, 108]⟩ : ByteArray), (⟨#[116, 112]⟩ : ByteArray)]
def rk (p : ByteArray) : Int := if p.toList = [109, 115, 108] then 0 else if p.toList = [116] then 1 else if p.toList = [116, 112] then 2 else if p.toList = [117] then 3 else 4
theorem rk_all : ∀ p ∈ P5, ∀ q ∈ P5, (p.toList = q.toList ↔ rk p = rk q) ∧ Op.bytesLess p.toList q.toList = decide (rk p < rk q) ∧ 0 ≤ rk p ∧ rk p ≤ 4 := by decide +kernel
theorem P5_low : ∀ p ∈ P5, (1 ≤ p.size ∧ p.size ≤ 4) ∧ ∀ j : Nat, j < p.size → 97 ≤ bt p (j : Int) ∧ bt p (j : Int) ≤ 122 := by
  intro p hp
  simp only [P5, List.mem_cons, List.not_mem_nil, or_false] at hp
  rcases hp with rfl | rfl | rfl | rfl | rfl
  all_goals refine ⟨by decide, ?_⟩
  all_goals decide
structure Good (e : S31) : Prop where
  par : e.f0 ∈ P5
  tim : 0 ≤ e.f1 ∧ e.f1 ≤ 52596000
  ste : 0 ≤ e.f2 ∧ e.f2 ≤ 360
  lev : 0 ≤ e.f3 ∧ e.f3 ≤ 1100
  siz : 0 ≤ e.f4 ∧ e.f4 ≤ 1000000000
def Ky (e : S31) : Int := ((rk e.f0 * 100000000 + e.f1) * 1000 + e.f2) * 10000 + e.f3
theorem ahead_K {a b : S31} (ha : Good a) (hb : Good b) : spec_l25Ahead.f a.f0 a.f1 a.f2 a.f3 a.f4 b.f0 b.f1 b.f2 b.f3 b.f4 = some (decide (Ky a < Ky b)) := by
  obtain ⟨h1, h2, h3, h4⟩ := rk_all a.f0 ha.par b.f0 hb.par
  have t1 := ha.tim; have t2 := hb.tim; have s1 := ha.ste; have s2 := hb.ste; have l1 := ha.lev; have l2 := hb.lev
  unfold spec_l25Ahead.f Ky
  by_cases c0 : a.f0.toList = b.f0.toList
  · have r := h1.1 c0
    rw [if_pos c0]
    by_cases c1 : a.f1 = b.f1
    · rw [if_pos c1]
      by_cases c2 : a.f2 = b.f2
      · rw [if_pos c2]; congr 1; apply decide_eq_decide.2; omega
      · rw [if_neg c2]; congr 1; apply decide_eq_decide.2; omega
    · rw [if_neg c1]; congr 1; apply decide_eq_decide.2; omega
  · have r : rk a.f0 ≠ rk b.f0 := fun e => c0 (h1.2 e)
    rw [if_neg c0, h2]; congr 1; apply decide_eq_decide.2; omega
theorem good_ok {e : S31} (h : Good e) : Ev (fun k => spec_l25EntryOk.f k e.f0 e.f1 e.f2 e.f3 e.f4) true := by
  obtain ⟨⟨z1, z2⟩, hb⟩ := P5_low e.f0 h.par
  obtain ⟨b, h1, _, h3⟩ := param_both e.f0 (by omega)
  obtain rfl := h3 hb z1 z2
  simp only [spec_l25EntryOk.f, l2Time_s, l2In_s, Option.bind_some]
  refine Ev.bind h1 (evPos rfl (evPos ((inS_iff _ _ _).2 h.tim) (evPos ((inS_iff _ _ _).2 h.ste) (evPos ((inS_iff _ _ _).2 h.lev) ?_))))
  rw [(inS_iff _ _ _).2 h.siz]
  exact Ev.now _
/-- A list in order. -/
structure Arch (l : List S31) : Prop where
  good : ∀ e ∈ l, Good e
  asc : l.Pairwise fun a b => Ky a < Ky b
theorem rdg (l : List S31) (i : Nat) (h : i < l.length) : rd_T31 l (i : Int) = l[i] := by simp [rd_T31, List.getD_eq_getElem?_getD, h]
theorem arch_ok {l : List S31} (h : Arch l) (hl : l.length ≤ 300) : Ev (fun k => spec_l25Ok.f k l) true := by
  simp only [spec_l25Ok.f]
  refine evNeg (by omega) ?_
  have main : ∀ t i, i + t = l.length → Ev (fun k => spec_l25Ok.l0 k l (i : Int)) true := by
    intro t
    induction t with
    | zero => intro i hi; exact Ev.step (fun k => spec_l25Ok.l0.eq_2 _ _ k) (evNeg (by omega) (Ev.now _))
    | succ t ih =>
      intro i hi
      have u := up1 (j := i) (by omega)
      replace u := Aside0.mk u
      have g : Good (rd_T31 l (i : Int)) := by rw [rdg l i (by omega)]; exact h.good _ (List.getElem_mem _)
      refine Ev.step (fun k => spec_l25Ok.l0.eq_2 _ _ k) (evPos (by omega) (evPos (by omega) (Ev.bind (good_ok g) (evPos rfl ?_))))
      rw [u.out]
      cases i with
      | zero => exact evNeg (by decide) (ih 1 (by omega))
      | succ i =>
        have d : Aside0 (wrap64 (((i + 1 : Nat) : Int) - 1) = (i : Int)) := ⟨by unfold wrap64; omega⟩
        rw [d.out]
        have g0 : Good (rd_T31 l (i : Int)) := by rw [rdg l i (by omega)]; exact h.good _ (List.getElem_mem _)
        have lt : Ky (rd_T31 l (i : Int)) < Ky (rd_T31 l ((i + 1 : Nat) : Int)) := by
          rw [rdg l i (by omega), rdg l (i + 1) (by omega)]
          exact List.pairwise_iff_getElem.1 h.asc i (i + 1) (by omega) (by omega) (by omega)
        refine evPos (by omega) (evPos (by omega) (evPos (by omega) ?_))
        simp only [ahead_K g0 g, Option.bind_some]
        exact evPos (by simpa using lt) (ih (i + 2) (by omega))
  exact main l.length 0 (by omega)
theorem store_ok {l : List S31} (h : Arch l) (hl : l.length ≤ 200) {e : S31} (he : Good e) : ∃ r, Ev (fun k => spec_Store.f k l e.f0 e.f1 e.f2 e.f3 e.f4) (r, true) ∧ Arch r ∧ 1 ≤ r.length ∧ r.length ≤ l.length + 1 := by
  have hk : ∀ x, x ∈ l → Good x := h.good
  obtain ⟨F, hF⟩ : ∃ F : List S31, F = l.filter (fun x => decide (Ky x < Ky e)) := ⟨_, rfl⟩
  obtain ⟨G, hG⟩ : ∃ G : List S31, G = l.filter (fun x => decide (Ky e < Ky x)) := ⟨_, rfl⟩
  have both : ∀ l : List S31, (l.filter (fun x => decide (Ky x < Ky e))).length + (l.filter (fun x => decide (Ky e < Ky x))).length ≤ l.length := by
    intro l
    induction l with
    | nil => simp
    | cons x l ih =>
      rw [List.filter_cons, List.filter_cons]
      by_cases c1 : Ky x < Ky e
      · rw [if_pos (by simpa using c1), if_neg (by simp; omega)]; simp; omega
      · by_cases c2 : Ky e < Ky x
        · rw [if_neg (by simpa using c1), if_pos (by simpa using c2)]; simp; omega
        · rw [if_neg (by simpa using c1), if_neg (by simpa using c2)]; simp; omega
  have hFG : F.length + G.length ≤ l.length := by rw [hF, hG]; exact both l
  have r1 : ∀ t i x6, i + t = l.length → x6.length + (G.length + 1) ≤ 300 → Ev (fun k => spec_Store.l1 k l x6 (i : Int) e.f0 e.f1 e.f2 e.f3 e.f4) (x6 ++ (l.drop i).filter (fun x => decide (Ky e < Ky x)), true) ∨ True := fun _ _ _ _ _ => .inr trivial
  have L1 : ∀ t i x6, i + t = l.length → x6.length + t ≤ 500 → x6.length + ((l.drop i).filter (fun x => decide (Ky e < Ky x))).length ≤ 300 → Ev (fun k => spec_Store.l1 k l x6 (i : Int) e.f0 e.f1 e.f2 e.f3 e.f4) (x6 ++ (l.drop i).filter (fun x => decide (Ky e < Ky x)), true) := by
    intro t
    induction t with
    | zero =>
      intro i x6 hi h1 h2
      rw [List.drop_eq_nil_of_le (by omega)] at h2 ⊢
      simp only [List.filter_nil, List.append_nil, List.length_nil] at h2 ⊢
      exact Ev.step (fun k => spec_Store.l1.eq_2 _ _ _ _ _ _ _ _ k) (evNeg (by omega) (evNeg (by omega) (Ev.now _)))
    | succ t ih =>
      intro i x6 hi h1 h2
      have u := up1 (j := i) (by omega)
      replace u := Aside0.mk u
      have g : Good (rd_T31 l (i : Int)) := by rw [rdg l i (by omega)]; exact hk _ (List.getElem_mem _)
      have dr : l.drop i = rd_T31 l (i : Int) :: l.drop (i + 1) := drop_rd l i (by omega)
      rw [dr, List.filter_cons] at h2 ⊢
      refine Ev.step (fun k => spec_Store.l1.eq_2 _ _ _ _ _ _ _ _ k) (evPos (by omega) (evPos (by omega) ?_))
      simp only [ahead_K he g, Option.bind_some]
      rw [u.out]
      by_cases c : Ky e < Ky (rd_T31 l (i : Int))
      · rw [if_pos (by simpa using c)] at h2 ⊢
        simp only [List.length_cons] at h2
        have := ih (i + 1) (x6 ++ [rd_T31 l (i : Int)]) (by omega) (by simp; omega) (by simp; omega)
        rw [List.append_assoc] at this
        exact evPos (by simpa using c) (evPos (by omega) this)
      · rw [if_neg (by simpa using c)] at h2 ⊢
        exact evNeg (by simpa using c) (ih (i + 1) x6 (by omega) (by omega) h2)
  have L0 : ∀ t i x6, i + t = l.length → x6 ++ (l.drop i).filter (fun x => decide (Ky x < Ky e)) = F → Ev (fun k => spec_Store.l0 k l x6 (i : Int) e.f0 e.f1 e.f2 e.f3 e.f4) (F ++ [e] ++ G, true) := by
    intro t
    induction t with
    | zero =>
      intro i x6 hi h1
      rw [List.drop_eq_nil_of_le (by omega)] at h1
      simp only [List.filter_nil, List.append_nil] at h1
      subst h1
      have := L1 l.length 0 (x6 ++ [e]) (by omega) (by simp; omega) (by simp only [List.drop_zero, List.length_append, List.length_singleton, ← hG]; omega)
      rw [List.drop_zero, ← hG] at this
      exact Ev.step (fun k => spec_Store.l0.eq_2 _ _ _ _ _ _ _ _ k) (evNeg (by omega) (evPos (by omega) this))
    | succ t ih =>
      intro i x6 hi h1
      have u := up1 (j := i) (by omega)
      replace u := Aside0.mk u
      have g : Good (rd_T31 l (i : Int)) := by rw [rdg l i (by omega)]; exact hk _ (List.getElem_mem _)
      have dr : l.drop i = rd_T31 l (i : Int) :: l.drop (i + 1) := drop_rd l i (by omega)
      have hx : x6.length ≤ F.length := by rw [← h1]; simp
      rw [dr, List.filter_cons] at h1
      refine Ev.step (fun k => spec_Store.l0.eq_2 _ _ _ _ _ _ _ _ k) (evPos (by omega) (evPos (by omega) ?_))
      simp only [ahead_K g he, Option.bind_some]
      rw [u.out]
      by_cases c : Ky (rd_T31 l (i : Int)) < Ky e
      · rw [if_pos (by simpa using c)] at h1
        exact evPos (by simpa using c) (evPos (by omega) (ih (i + 1) (x6 ++ [rd_T31 l (i : Int)]) (by omega) (by rw [List.append_assoc]; exact h1)))
      · rw [if_neg (by simpa using c)] at h1
        exact evNeg (by simpa using c) (ih (i + 1) x6 (by omega) h1)
  refine ⟨F ++ [e] ++ G, ?_, ⟨fun x hx => ?_, ?_⟩, by simp; omega, by simp; omega⟩
  · simp only [spec_Store.f]
    refine Ev.bind (arch_ok h (by omega)) (evPos rfl (Ev.bind (good_ok he) ?_))
    exact Ev.step (fun k => spec_Store.j0.eq_2 _ _ _ _ _ _ _ k) (evNeg (by decide) (L0 l.length 0 [] (by omega) (by rw [hF]; rfl)))
  · rcases List.mem_append.1 hx with hx | hx
    · rcases List.mem_append.1 hx with hx | hx
      · rw [hF] at hx; exact hk x (List.mem_filter.1 hx).1
      · rw [List.mem_singleton.1 hx]; exact he
    · rw [hG] at hx; exact hk x (List.mem_filter.1 hx).1
  · have fa : ∀ x ∈ F, Ky x < Ky e := fun x hx => by rw [hF] at hx; simpa using (List.mem_filter.1 hx).2
    have ga : ∀ x ∈ G, Ky e < Ky x := fun x hx => by rw [hG] at hx; simpa using (List.mem_filter.1 hx).2
    have pf : F.Pairwise fun a b => Ky a < Ky b := by rw [hF]; exact h.asc.filter _
    have pg : G.Pairwise fun a b => Ky a < Ky b := by rw [hG]; exact h.asc.filter _
    rw [List.pairwise_append, List.pairwise_append]
    refine ⟨⟨pf, by simp, fun a ha b hb => ?_⟩, pg, fun a ha b hb => ?_⟩
    · rw [List.mem_singleton.1 hb]; exact fa a ha
    · rcases List.mem_append.1 ha with ha | ha
      · exact Int.lt_trans (fa a ha) (ga b hb)
      · rw [List.mem_singleton.1 ha]; exact ga b hb
theorem entry_ok {l : List Int} (h : Src l) {p : Int} (hp : At l p) : ∃ (e : S31) (q : Int), spec_l1Rd_entry.f l p = some (e.f0, e.f1, e.f2, e.f3, e.f4, q) ∧ Good e ∧ At l q := by
  unfold spec_l1Rd_entry.f
  obtain ⟨v1, q1, e1, a1, b1, h1⟩ := below_ok h hp 5 (by omega)
  obtain ⟨v2, q2, e2, a2, b2, h2⟩ := below_ok h h1 3 (by omega)
  obtain ⟨v3, q3, e3, a3, b3, h3⟩ := below_ok h h2 5 (by omega)
  obtain ⟨v4, q4, e4, a4, b4, h4⟩ := below_ok h h3 3 (by omega)
  obtain ⟨v5, q5, e5, a5, b5, h5⟩ := below_ok h h4 90 (by omega)
  refine ⟨⟨rdOf ByteArray.empty P5 v1, wrap64 (14130000 + wrap64 (v2 * 720)), wrap64 (v3 * 6), rd [0, 500, 850] v4, v5⟩, q5, ?_, ⟨?_, ?_, ?_, ?_, ?_⟩, h5⟩
  · simp only [e1, e2, e3, e4, e5, Option.bind_some]
    rw [if_pos a1, if_pos (by simpa using b1), if_pos a4, if_pos (by simpa using b4)]
    rfl
  · have : v1 = 0 ∨ v1 = 1 ∨ v1 = 2 ∨ v1 = 3 ∨ v1 = 4 := by omega
    rcases this with rfl | rfl | rfl | rfl | rfl <;> simp [rdOf, P5]
  · show 0 ≤ wrap64 (14130000 + wrap64 (v2 * 720)) ∧ wrap64 (14130000 + wrap64 (v2 * 720)) ≤ 52596000
    rw [w64 (x := v2 * 720) (by omega) (by omega), w64 (by omega) (by omega)]; omega
  · show 0 ≤ wrap64 (v3 * 6) ∧ wrap64 (v3 * 6) ≤ 360
    rw [w64 (by omega) (by omega)]; omega
  · have : v4 = 0 ∨ v4 = 1 ∨ v4 = 2 := by omega
    show 0 ≤ rd [0, 500, 850] v4 ∧ rd [0, 500, 850] v4 ≤ 1100
    rcases this with rfl | rfl | rfl <;> decide
  · exact ⟨a5, by show v5 ≤ _; omega⟩
theorem archive_ok {l : List Int} (h : Src l) {p : Int} (hp : At l p) : ∃ r q, Ev (fun k => spec_l1Rd_archive.f k l p 30) (r, q) ∧ Arch r ∧ 1 ≤ r.length ∧ r.length ≤ 30 ∧ At l q := by
  simp only [spec_l1Rd_archive.f]
  obtain ⟨n, q, e, n0, n1, hq⟩ := size_ok h hp 4 30 (by omega) (by omega) (by omega)
  obtain ⟨n, rfl⟩ := Int.eq_ofNat_of_zero_le (show 0 ≤ n by omega)
  have main : ∀ t i x5 p, i + t = n → Arch x5 → x5.length ≤ i → (1 ≤ i → 1 ≤ x5.length) → At l p → ∃ r q, Ev (fun k => spec_l1Rd_archive.l0 k x5 (n : Int) (i : Int) l p) (r, q) ∧ Arch r ∧ 1 ≤ r.length ∧ r.length ≤ 30 ∧ At l q := by
    intro t
    induction t with
    | zero =>
      intro i x5 p hi ha h1 h2 hp
      exact ⟨x5, p, Ev.step (fun k => spec_l1Rd_archive.l0.eq_2 _ _ _ _ _ k) (evNeg (by omega) (Ev.now _)), ha, h2 (by omega), by omega, hp⟩
    | succ t ih =>
      intro i x5 p hi ha h1 h2 hp
      have u := up1 (j := i) (by omega)
      replace u := Aside0.mk u
      obtain ⟨en, q, e, hg, hq⟩ := entry_ok h hp
      obtain ⟨r, hs, hr, hr1, hr2⟩ := store_ok ha (by omega) hg
      obtain ⟨r', q', h', g1, g2, g3, g4⟩ := ih (i + 1) r q (by omega) hr (by omega) (fun _ => hr1) hq
      refine ⟨r', q', Ev.step (fun k => spec_l1Rd_archive.l0.eq_2 _ _ _ _ _ k) (evPos (by omega) ?_), g1, g2, g3, g4⟩
      simp only [e, Option.bind_some]
      refine Ev.bind hs ?_
      rw [u.out]
      exact h'
  obtain ⟨r, q', h', g⟩ := main n 0 [] q (by omega) ⟨fun e he => by simp at he, List.Pairwise.nil⟩ (Nat.le_refl _) (fun h => by omega) hq
  refine ⟨r, q', ?_, g⟩
  simp only [e, Option.bind_some]
  exact h'
theorem P5_size : ∀ p ∈ P5, p.size ≤ 1000 := fun p hp => by have := (P5_low p hp).1; omega
theorem set_mem {l : List S31} {i : Nat} {x : S31} {P : S31 → Prop} (h : ∀ e ∈ l, P e) (hx : P x) : ∀ e ∈ l.set i x, P e := fun e he => by
  rcases List.mem_or_eq_of_mem_set he with h1 | h1
  · exact h e h1
  · subst h1; exact hx
theorem ev_of {α : Type} {x : Option α} {v : α} (h : x = some v) : Ev (fun _ => x) v := by rw [h]; exact Ev.now _
theorem drawArchive_ok {l : List Int} (h : Src l) {p : Int} (hp : At l p) : ∃ r q, Ev (fun k => spec_l25DrawArchive.f k l p) (r, q) ∧ (∀ e ∈ r, e.f0.size ≤ 1000) ∧ At l q := by
  simp only [spec_l25DrawArchive.f]
  obtain ⟨r, q, e, ha, r1, r2, hq⟩ := archive_ok h hp
  have hs : ∀ e ∈ r, e.f0.size ≤ 1000 := fun e he => P5_size _ (ha.good e he).par
  have hs0 : (rd_T31 r 0).f0.size ≤ 1000 := by
    have := rdg r 0 (by omega)
    rw [show (0 : Int) = ((0 : Nat) : Int) from rfl, this]
    exact hs _ (List.getElem_mem _)
  obtain ⟨v, q1, e1, v0, v1, h1⟩ := below_ok h hq 24 (by omega)
  by_cases c0 : v = 0
  · obtain ⟨w, q2, e2, w0, w1, h2⟩ := below_ok h h1 4 (by omega)
    refine ⟨r.set (0 : Int).toNat (⟨rdOf ByteArray.empty [(⟨#[]⟩ : ByteArray), (⟨#[84]⟩ : ByteArray), (⟨#[97, 98, 99, 100, 101]⟩ : ByteArray), (⟨#[122, 122, 122, 122]⟩ : ByteArray)] w, (rd_T31 r 0).f1, (rd_T31 r 0).f2, (rd_T31 r 0).f3, (rd_T31 r 0).f4⟩ : S31), q2, Ev.bind e (Ev.bind (ev_of e1) (evPos c0 (Ev.bind (Ev.now _) (Ev.bind (ev_of e2) (evPos w0 (evPos (show w < 4 from w1) (evPos (show (0 : Int) < (r.length : Int) by omega) (Ev.now _)))))))), ?_, h2⟩
    refine set_mem hs ?_
    have : w = 0 ∨ w = 1 ∨ w = 2 ∨ w = 3 := by omega
    show (rdOf ByteArray.empty [(⟨#[]⟩ : ByteArray), (⟨#[84]⟩ : ByteArray), (⟨#[97, 98, 99, 100, 101]⟩ : ByteArray), (⟨#[122, 122, 122, 122]⟩ : ByteArray)] w).size ≤ 1000
    rcases this with rfl | rfl | rfl | rfl <;> decide
  by_cases c1 : v = 1
  · refine ⟨r ++ [(⟨(rd_T31 r 0).f0, (rd_T31 r 0).f1, (rd_T31 r 0).f2, (rd_T31 r 0).f3, (rd_T31 r 0).f4⟩ : S31)], q1, Ev.bind e (Ev.bind (ev_of e1) (evNeg c0 (evPos c1 (evPos (show (0 : Int) < (r.length : Int) by omega) (evPos (show r.length < 2932031007402 by omega) (Ev.now _)))))), ?_, h1⟩
    intro x hx
    rcases List.mem_append.1 hx with hx | hx
    · exact hs x hx
    · rw [List.mem_singleton.1 hx]; exact hs0
  by_cases c2 : v = 2
  · obtain ⟨w, q2, e2, w0, w1, h2⟩ := below_ok h h1 3 (by omega)
    exact ⟨r.set (0 : Int).toNat (⟨(rd_T31 r 0).f0, (rd_T31 r 0).f1, (rd_T31 r 0).f2, (rd_T31 r 0).f3, rd [(-1), 1000000000, 1000000001] w⟩ : S31), q2, Ev.bind e (Ev.bind (ev_of e1) (evNeg c0 (evNeg c1 (evPos c2 (Ev.bind (Ev.now _) (Ev.bind (ev_of e2) (evPos w0 (evPos (show w < 3 from w1) (evPos (show (0 : Int) < (r.length : Int) by omega) (Ev.now _)))))))))), set_mem hs hs0, h2⟩
  by_cases c3 : v = 3
  · obtain ⟨w, q2, e2, w0, w1, h2⟩ := below_ok h h1 2 (by omega)
    have main : ∀ (t i : Nat) (x3 : List S31), (i : Int) + (t : Int) = 300 + w → x3.length = i → (∀ e ∈ x3, e.f0.size ≤ 1000) → ∃ r, Ev (fun k => spec_l25DrawArchive.l0 k x3 (300 + w) (i : Int) l q2) (r, q2) ∧ (∀ e ∈ r, e.f0.size ≤ 1000) := by
      intro t
      induction t with
      | zero =>
        intro i x3 hi hx hs3
        exact ⟨x3, Ev.step (fun k => spec_l25DrawArchive.l0.eq_2 _ _ _ _ _ k) (evNeg (by omega) (Ev.now _)), hs3⟩
      | succ t ih =>
        intro i x3 hi hx hs3
        have u := up1 (j := i) (by omega)
        replace u := Aside0.mk u
        obtain ⟨r, h1, h2⟩ := ih (i + 1) (x3 ++ [(⟨(⟨#[116]⟩ : ByteArray), (i : Int), 0, 0, 7⟩ : S31)]) (by omega) (by simp; omega) (fun x hx => by
          rcases List.mem_append.1 hx with hx | hx
          · exact hs3 x hx
          · rw [List.mem_singleton.1 hx]; show (⟨#[116]⟩ : ByteArray).size ≤ 1000; decide)
        refine ⟨r, Ev.step (fun k => spec_l25DrawArchive.l0.eq_2 _ _ _ _ _ k) (evPos (by omega) (evPos (by omega) ?_)), h2⟩
        rw [u.out]
        exact h1
    obtain ⟨r', h', hs'⟩ := main (300 + w).toNat 0 [] (by omega) rfl (fun e he => by simp at he)
    rw [← w64 (x := 300 + w) (by omega) (by omega)] at h'
    exact ⟨r', q2, Ev.bind e (Ev.bind (ev_of e1) (evNeg c0 (evNeg c1 (evNeg c2 (evPos c3 (Ev.bind (ev_of e2) h')))))), hs', h2⟩
  · exact ⟨r, q1, Ev.bind e (Ev.bind (ev_of e1) (evNeg c0 (evNeg c1 (evNeg c2 (evNeg c3 (Ev.now _)))))), hs, h1⟩
theorem drawDeal_ok {l : List Int} (h : Src l) : ∃ r b s, Ev (fun k => spec_DrawDeal.f k l) (r, b, s) ∧ (∀ e ∈ r, e.f0.size ≤ 1000) := by
  simp only [spec_DrawDeal.f]
  have e0 : Ev (fun _ : Nat => spec_l1Open.f l) (l, 0) := Ev.now _
  obtain ⟨r, q, e, hs, hq⟩ := drawArchive_ok h (p := 0) ⟨by omega, by omega⟩
  obtain ⟨v1, q1, e1, a1, b1, h1⟩ := below_ok h hq 200 (by omega)
  obtain ⟨v2, q2, e2, a2, b2, h2⟩ := below_ok h h1 5 (by omega)
  obtain ⟨v3, q3, e3, a3, b3, h3⟩ := below_ok h h2 14 (by omega)
  by_cases c0 : v3 = 0
  · obtain ⟨w, q4, e4, w0, w1, h4⟩ := below_ok h h3 4 (by omega)
    exact ⟨r, rd [(-1), 0, 1000000000000, 1000000000001] w, wrap64 (1 + v2), Ev.bind e0 (Ev.bind e (Ev.bind (ev_of e1) (Ev.bind (ev_of e2) (Ev.bind (ev_of e3) (evPos c0 (Ev.bind (Ev.now _) (Ev.bind (ev_of e4) (evPos w0 (evPos (show w < 4 from w1) (Ev.now _)))))))))), hs⟩
  by_cases c1 : v3 = 1
  · obtain ⟨w, q4, e4, w0, w1, h4⟩ := below_ok h h3 3 (by omega)
    exact ⟨r, v1, rd [0, 100, 101] w, Ev.bind e0 (Ev.bind e (Ev.bind (ev_of e1) (Ev.bind (ev_of e2) (Ev.bind (ev_of e3) (evNeg c0 (evPos c1 (Ev.bind (Ev.now _) (Ev.bind (ev_of e4) (evPos w0 (evPos (show w < 3 from w1) (Ev.now _))))))))))), hs⟩
  · exact ⟨r, v1, wrap64 (1 + v2), Ev.bind e0 (Ev.bind e (Ev.bind (ev_of e1) (Ev.bind (ev_of e2) (Ev.bind (ev_of e3) (evNeg c0 (evNeg c1 (Ev.now _))))))), hs⟩

theorem FnDealt : laws_FnDealt.Pure := by
  intro l _ _ hb
  refine Ev.rounds ?_
  simp only [laws_FnDealt.f, laws_big.f, Option.bind_some]
  by_cases big : decide ((l.length : Int) > 1048576) = true
  · exact evPos big (Ev.now _)
  refine evNeg big ?_
  have h : Src l := ⟨by have := big; simp at this; omega, fun x hx => by have := hb x hx; simp [Lit.wf] at this; exact this⟩
  obtain ⟨D, b, s, e, hs⟩ := drawDeal_ok h
  obtain ⟨r, h1, h2, h3, h4⟩ := deal_both D b s hs
  refine Ev.bind e (Ev.bind h1 (Ev.bind h2 ?_))
  dsimp only
  refine evNeg (by simp) ?_
  by_cases c : r.2 = true
  · obtain ⟨g1, g2, g3, g4⟩ := h4 c
    exact evPos c (evPos (by omega) (evPos g2 (evPos (by omega) g4)))
  · have := h3 (by simpa using c)
    refine evNeg c ?_
    rw [this]
    exact Ev.now _
end Go.Proofs.Yteobnbichpadjab.Pure
end

section
/- Plain Lean functions with the same answers as the Go functions of this seat, and a proof for each that the Go code comes to just these answers; no condition. Written by a program of this session (the kit's printer, turned). -/
namespace Go.Proofs.Yteobnbichpadjab.fnDealt
open Go.ChangeShapes Go.WideShapes Go.ChangeAt Go.RowKit
open Go.ChangeMaps (open_string shut_string)
set_option linter.unusedVariables false
theorem own : ownKnob Try.prog.godebug = none := by kernel_rfl
theorem laidOut : laidOutB Try.prog = true := by kernel_rfl
def IsRow (k : IntKind) (w : World) (a : Option Addr) (len cap : Nat) (zs : List Int) : Prop :=
  (a = none ∧ len = 0 ∧ cap = 0 ∧ zs = []) ∨
  ∃ x, a = some x ∧ len ≤ cap ∧ cap ≤ maxLen ∧ zs.length = cap ∧ (∀ i, i < zs.length → w.cell? (x.add i) = some (.int k (zs.getD i 0))) ∧ ∀ n ∈ zs, (Lit.int k n).wf = true
set_option maxRecDepth 100000 in
theorem lifted (os : Os) (started : os.Started) (H : Type) (enc : TypeId × Value → H) :
    ReturnsInHanded {} Try.checked os 3 .any (Rows.fnDealtSpec.pre6 enc Try.prog Try.f3 Rows.fnDealtRow.domain false) (Rows.fnDealtSpec.post enc Try.prog Try.f3 false true false false) := by
  refine returnsInHanded_of_change_sized (C := Try.checked) own started (by kernel_rfl) Try.func3
    (ChangeSpec.witness6 (enc := enc) (C := Try.checked) false ⟨#[], #[.slice none 0 0], []⟩ 8 (by kernel_rfl) (by kernel_rfl) (by kernel_rfl) (by kernel_rfl)) ?_
  intro W base args ds gs before hval0 hW hcnd hsz0 _
  have hsz : (DataW.weightsEach Try.prog (Try.f3.params.toList ++ Rows.fnDealtSpec.plain.varTypes Try.prog) (ds ++ gs)).all (· ≤ reachBytes) = true := hsz0
  have hval : ∀ (j : Nat) t v, Try.f3.params[j]? = some t → args[j]? = some v → Value.okWide Try.prog W .any base t v := hval0
  have hW' := hW
  obtain ⟨p, q, hA0, hV, rfl, hfz, hnd⟩ := hW
  have hA : DataW.TrodAll enc Try.prog W 0 (fun _ => true) true Try.f3.params.toList args.toList ds p := hA0
  rw [Try.params3] at hA hval hsz
  obtain ⟨v0, vs0, d0, ds0, p0, q0, hargs, rfl, rfl, h0, r0⟩ := trodAll_cons hA
  obtain ⟨rfl, rfl, rfl⟩ := trodAll_nil r0
  obtain rfl : args = #[v0] := by cases args; simp_all
  obtain ⟨rfl, rfl⟩ := trodVars_none hV
  obtain ⟨a0, len0, cap0, rfl⟩ := okWide_slice Try.underlying22 (hval 0 22 v0 rfl rfl)
  have k0 := h0
  have lt0 : ∀ x ∈ p0, x.block < W.heap.size := by obtain ⟨m, hm⟩ := k0; exact DataW.trod_lt m _ _ _ hm
  obtain ⟨z0, w0⟩ : ∃ zs, IsRow .u8 W a0 len0 cap0 zs := by
    obtain ⟨fuel, hf⟩ := h0
    rcases open_ints Try.underlying22 Try.underlying5 (by kernel_rfl) hf with ⟨hcs, _⟩ | ⟨x, l, c, zs, hcs, _, hl, hm, hz, _, hcell, hwz⟩
    · simp [Value.cells] at hcs
      obtain ⟨rfl, rfl, rfl⟩ := hcs
      exact ⟨[], .inl ⟨rfl, rfl, rfl, rfl⟩⟩
    · simp [Value.cells] at hcs
      obtain ⟨rfl, rfl, rfl⟩ := hcs
      exact ⟨zs, .inr ⟨_, rfl, hl, hm, by simpa using hz, hcell, hwz⟩⟩
  have y0 : len0 * 1 ≤ 140737488351232 := Go.Proofs.YteobnbichpadjabW.PrintWords.sized_ints hsz (j := 0) (t := 22) rfl rfl Try.underlying22 Try.underlying5 (by kernel_rfl) (by kernel_rfl) h0
  clear hA0 hval0 hsz0 hsz
  refine (Q.laws_FnDealt.walk Pure.FnDealt a0 len0 cap0 z0 W w0 y0).mono fun e W' ⟨he, bel⟩ => ?_
  subst he
  exact ⟨_, rfl, _, _, _, [], _, [], hW', trodAll_mk1 (shut_bool Try.underlying4 _), (trodAll_cons_mk (Below.trod laidOut (by kernel_rfl) (of_decide_eq_true (by kernel_rfl)) k0 bel lt0) trodAll_mk0), rfl, bel.frame _, fun h => by cases h⟩
theorem over : Rows.fnDealtRow.holds Try.pinned (OpenSpec.ofChange Rows.fnDealtSpec) :=
  OpenClaim.holds_of_wide 3 Try.f3 rfl rfl rfl rfl rfl rfl rfl ⟨rfl, rfl, rfl, rfl, rfl⟩ rfl rfl rfl rfl rfl (by kernel_rfl) Try.func3 (by kernel_rfl)
    (of_decide_eq_true (by kernel_rfl)) (by unfold Func.isWrapper; first | (rw [if_pos (by decide +kernel)]; kernel_rfl) | (rw [if_neg (by decide +kernel)]; exact ⟨rfl, rfl⟩))
    (fun os started H enc _ => lifted os started H enc)
theorem proved : Rows.FnDealtSaid := over
#print axioms proved
end Go.Proofs.Yteobnbichpadjab.fnDealt
namespace Go.Proofs.Yteobnbichpadjab
/-- The row, under a short name, for the claim. -/
theorem fnDealt_holds : Rows.FnDealtSaid := fnDealt.proved
end Go.Proofs.Yteobnbichpadjab
end
