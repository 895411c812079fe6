import Derived.Test.YteobnbichpadjaaWWords
import Derived.Test.YteobnbichpadjaaWMore
import Derived.Test.YteobnbichpadjaaFlt
import Derived.Test.YteobnbichpadjaaQx10
import Derived.Test.YteobnbichpadjaaQx13
import Derived.Test.YteobnbichpadjaaQx19
import Derived.Test.YteobnbichpadjaaQx20
import Derived.Test.YteobnbichpadjaaQx21
import Derived.Test.YteobnbichpadjaaQx22
import Derived.Test.YteobnbichpadjaaQx23
import Derived.Test.YteobnbichpadjaaQx24
import Derived.Test.YteobnbichpadjaaQx25
import Derived.Test.YteobnbichpadjaaQx26
import Derived.Test.YteobnbichpadjaaQx27
import Derived.Test.YteobnbichpadjaaQx28
import Derived.Test.YteobnbichpadjaaQx11
import Derived.Test.YteobnbichpadjaaQx12
import Derived.Test.YteobnbichpadjaaQx14
import Derived.Test.YteobnbichpadjaaQx15
import Derived.Test.YteobnbichpadjaaQx29
import Derived.Test.YteobnbichpadjaaQx4
import Derived.Test.YteobnbichpadjaaQx5
import Derived.Test.YteobnbichpadjaaQx6
import Derived.Test.YteobnbichpadjaaQx16
import Derived.Test.YteobnbichpadjaaQx17
import Derived.Test.YteobnbichpadjaaQx18
import Derived.Test.YteobnbichpadjaaQx2
import Derived.Test.YteobnbichpadjaaQx3
import Derived.Test.YteobnbichpadjaaQx7
import Derived.Test.YteobnbichpadjaaQx8
import Derived.Test.YteobnbichpadjaaQx9
import Derived.Test.YteobnbichpadjaaRows
import Derived.WalkKit
import Derived.ProofKit
import Derived.OpenShut
import Derived.ShutString
import Derived.ChangeOld
import Derived.Below
import Derived.SizedLaws
import Derived.Test.YteobnbichpadjaaWSized

section
/- Loops told by rounds: general lemmas for the plain statements of this seat: a loop with an invariant and a measure ends; copying, comparing, marking of lists. No condition. -/
set_option linter.unusedVariables false
set_option linter.unusedSimpArgs false
namespace Go.Proofs.Yteobnbichpadjaa.Gen
open Go.RowKit Go.Proofs.YteobnbichpadjaaW.PrintWords Go.Proofs.YteobnbichpadjaaW.PrintMore

theorem loop {S R : Type} (g : Nat → S → Option R) (μ : S → Nat) (Inv : S → Prop) (Q : R → Prop)
    (step : ∀ s, Inv s → (∃ r, Q r ∧ Ev (fun k => g k s) r) ∨ ∃ s', Inv s' ∧ μ s' < μ s ∧ ∃ K, ∀ k, K ≤ k → g (k + 1) s = g k s') :
    ∀ s, Inv s → ∃ r, Q r ∧ Ev (fun k => g k s) r := by
  intro s
  induction hm : μ s using Nat.strongRecOn generalizing s with
  | _ m ih =>
    intro hs
    rcases step s hs with h | ⟨s', hs', hlt, K, hK⟩
    · exact h
    · obtain ⟨r, hq, K', hr⟩ := ih (μ s') (hm ▸ hlt) s' rfl hs'
      refine ⟨r, hq, max K K' + 1, fun k hk => ?_⟩
      obtain ⟨j, rfl⟩ : ∃ j, k = j + 1 := ⟨k - 1, by omega⟩
      show g (j + 1) s = some r
      rw [hK j (by omega)]
      exact hr j (by omega)

/-- A loop whose answer is known. -/
theorem loopEq {S R : Type} (g : Nat → S → Option R) (μ : S → Nat) (Inv : S → Prop) (r : R)
    (step : ∀ s, Inv s → Ev (fun k => g k s) r ∨ ∃ s', Inv s' ∧ μ s' < μ s ∧ ∃ K, ∀ k, K ≤ k → g (k + 1) s = g k s') :
    ∀ s, Inv s → Ev (fun k => g k s) r := by
  intro s hs
  obtain ⟨q, rfl, h⟩ := loop g μ Inv (fun q => q = r) (fun s hs => by
    rcases step s hs with h | h
    · exact .inl ⟨r, rfl, h⟩
    · exact .inr h) s hs
  exact h

theorem Ev_succ {R : Type} {g : Nat → Option R} {r : R} (h : ∀ k, g (k + 1) = some r) : Ev g r :=
  Ev.step (f := fun _ => some r) h (Ev.now r)

theorem evPos {R : Type} {c : Prop} [Decidable c] {g g' : Nat → Option R} {r : R} (hc : c) (h : Ev g r) : Ev (fun k => if c then g k else g' k) r := by
  simpa only [if_pos hc] using h
theorem evNeg {R : Type} {c : Prop} [Decidable c] {g g' : Nat → Option R} {r : R} (hc : ¬ c) (h : Ev g' r) : Ev (fun k => if c then g k else g' k) r := by
  simpa only [if_neg hc] using h
theorem ev_at {R : Type} {g : Nat → Option R} {r : R} (h : Ev g r) : ∃ K, ∀ k, K ≤ k → g k = some r := h

theorem w64 {x : Int} (h0 : -9223372036854775808 ≤ x) (h1 : x ≤ 9223372036854775807) : wrap64 x = x := by unfold wrap64; omega

theorem wf64 {x : Int} (h : (Lit.int .i64 x).wf = true) : -9223372036854775808 ≤ x ∧ x ≤ 9223372036854775807 := by
  simp [Lit.wf] at h
  exact ⟨h.1, h.2⟩

/-! lists -/
theorem rd_nat (xs : List Int) (i : Nat) : rd xs (i : Int) = xs.getD i 0 := by simp [rd]
theorem toNat_nat (i : Nat) : ((i : Int)).toNat = i := Int.toNat_natCast i

theorem getD_append_left {α} (xs ys : List α) (d : α) {i : Nat} (h : i < xs.length) : (xs ++ ys).getD i d = xs.getD i d := by
  simp [List.getD_eq_getElem?_getD, List.getElem?_append_left h]

/-- Copying element by element into a list of the same length. -/
theorem take_set_succ {α} (xs ys : List α) (d : α) (i : Nat) (hl : ys.length = xs.length) (hi : i < xs.length) (h : ys.take i = xs.take i) :
    (ys.set i (xs.getD i d)).take (i + 1) = xs.take (i + 1) := by
  apply List.ext_getElem?
  intro j
  have hj := congrArg (fun l => l[j]?) h
  simp only [List.getElem?_take] at hj ⊢
  by_cases h1 : j < i
  · simp [h1] at hj
    have : j < i + 1 := by omega
    simp [this, List.getElem?_set, show i ≠ j by omega, hj]
  · by_cases h2 : j = i
    · subst h2
      simp [List.getElem?_set, hl, hi, List.getD_eq_getElem?_getD]
    · have : ¬ j < i + 1 := by omega
      simp [this]

theorem eq_of_take {α} (xs ys : List α) (hl : ys.length = xs.length) (h : ys.take xs.length = xs.take xs.length) : ys = xs := by
  rw [List.take_of_length_le (by omega), List.take_of_length_le (by omega)] at h
  exact h

/-- The numbers from a on. -/
def marks (a : Int) (n : Nat) : List Int := (List.range n).map fun (j : Nat) => a + (j : Int)
theorem marks_length (a : Int) (n : Nat) : (marks a n).length = n := by simp [marks]
theorem marks_get (a : Int) (n i : Nat) (h : i < n) : (marks a n).getD i 0 = a + (i : Int) := by
  simp [marks, List.getD_eq_getElem?_getD, h]

/-- A counting loop whose state is known at each round. -/
theorem count {S R : Type} (g : Nat → Int → S → Option R) (n : Nat) (st : Nat → S) (r : R)
    (step : ∀ j, j < n → ∃ K, ∀ k, K ≤ k → g (k + 1) (j : Int) (st j) = g k ((j + 1 : Nat) : Int) (st (j + 1)))
    (last : Ev (fun k => g k (n : Int) (st n)) r) : ∀ j, j ≤ n → Ev (fun k => g k (j : Int) (st j)) r := by
  intro j hj
  induction hd : n - j generalizing j with
  | zero =>
    obtain rfl : j = n := by omega
    exact last
  | succ d ih =>
    obtain ⟨K, hK⟩ := step j (by omega)
    obtain ⟨K', h'⟩ := ih (j + 1) (by omega) (by omega)
    refine ⟨max K K' + 1, fun k hk => ?_⟩
    obtain ⟨m, rfl⟩ : ∃ m, k = m + 1 := ⟨k - 1, by omega⟩
    show g (m + 1) (j : Int) (st j) = some r
    rw [hK m (by omega)]
    exact h' m (by omega)

/-- A loop that may end early: what it answers from each place on is known. -/
theorem scan {R : Type} (g : Nat → Int → Option R) (n : Nat) (res : Nat → R)
    (step : ∀ j, j < n → (res j = res (j + 1) ∧ ∃ K, ∀ k, K ≤ k → g (k + 1) (j : Int) = g k ((j + 1 : Nat) : Int)) ∨ Ev (fun k => g k (j : Int)) (res j))
    (last : Ev (fun k => g k (n : Int)) (res n)) : ∀ j, j ≤ n → Ev (fun k => g k (j : Int)) (res j) := by
  intro j hj
  induction hd : n - j generalizing j with
  | zero =>
    obtain rfl : j = n := by omega
    exact last
  | succ d ih =>
    rcases step j (by omega) with ⟨e, K, hK⟩ | h
    · obtain ⟨K', h'⟩ := ih (j + 1) (by omega) (by omega)
      refine ⟨max K K' + 1, fun k hk => ?_⟩
      obtain ⟨m, rfl⟩ : ∃ m, k = m + 1 := ⟨k - 1, by omega⟩
      show g (m + 1) (j : Int) = some (res j)
      rw [hK m (by omega), e]
      exact h' m (by omega)
    · exact h

/-- A scan where each place's answer follows from the next one's. -/
theorem scanE {R : Type} (g : Nat → Int → Option R) (n : Nat) (res : Nat → R)
    (step : ∀ j, j < n → Ev (fun k => g k ((j + 1 : Nat) : Int)) (res (j + 1)) → Ev (fun k => g k (j : Int)) (res j))
    (fin : Ev (fun k => g k (n : Int)) (res n)) : ∀ j, j ≤ n → Ev (fun k => g k (j : Int)) (res j) := by
  have main : ∀ t j, n - j = t → j ≤ n → Ev (fun k => g k (j : Int)) (res j) := by
    intro t
    induction t with
    | zero =>
      intro j h1 h2
      obtain rfl : j = n := by omega
      exact fin
    | succ t ih =>
      intro j h1 h2
      exact step j (by omega) (ih (j + 1) (by omega) (by omega))
  exact fun j hj => main _ j rfl hj

theorem all_drop {α} (l : List α) (p : α → Bool) (d : α) (j : Nat) (hj : j < l.length) : (l.drop j).all p = (p (l.getD j d) && (l.drop (j + 1)).all p) := by
  rw [List.drop_eq_getElem_cons hj, List.all_cons, List.getD_eq_getElem?_getD, List.getElem?_eq_getElem hj]
  rfl

/-- Are all of them from low to high? -/
def allIn (l : List Int) (lo hi : Int) : Bool := l.all fun x => decide (lo ≤ x) && decide (x ≤ hi)
theorem allIn_get {l : List Int} {lo hi : Int} (h : allIn l lo hi = true) (i : Nat) (hi' : i < l.length) : lo ≤ l.getD i 0 ∧ l.getD i 0 ≤ hi := by
  simp only [allIn, List.all_eq_true] at h
  have := h (l.getD i 0) (by rw [List.getD_eq_getElem?_getD, List.getElem?_eq_getElem hi']; exact List.getElem_mem hi')
  simpa using this

theorem up1 {j : Nat} (h : j < 4611686018427387904) : wrap64 ((j : Int) + 1) = ((j + 1 : Nat) : Int) := by unfold wrap64; omega

/-- The first j elements copied. -/
def mixed {α} (xs ys : List α) (j : Nat) : List α := xs.take j ++ ys.drop j
theorem mixed_length {α} (xs ys : List α) (j : Nat) (h : ys.length = xs.length) : (mixed xs ys j).length = xs.length := by simp [mixed]; omega
theorem mixed_zero {α} (xs ys : List α) : mixed xs ys 0 = ys := by simp [mixed]
theorem mixed_all {α} (xs ys : List α) (h : ys.length = xs.length) : mixed xs ys xs.length = xs := by simp [mixed, h]
theorem mixed_set {α} (xs ys : List α) (d : α) (j : Nat) (hl : ys.length = xs.length) (hj : j < xs.length) : (mixed xs ys j).set j (xs.getD j d) = mixed xs ys (j + 1) := by
  apply List.ext_getElem?
  intro i
  simp only [mixed, List.getElem?_set, List.getElem?_append, List.length_take, List.length_append, List.length_drop, List.getElem?_take, List.getElem?_drop, List.getD_eq_getElem?_getD]
  by_cases h1 : i < j
  · have : i < min j xs.length := by omega
    have h2 : i < min (j + 1) xs.length := by omega
    have h3 : i < j + 1 := by omega
    have h4 : ¬ j = i := by omega
    simp [this, h2, h1, h3, h4]
  · by_cases h2 : i = j
    · subst h2
      have h3 : i < min (i + 1) xs.length := by omega
      have h4 : i < min i xs.length + (ys.length - i) := by omega
      simp [h3, h4, List.getElem?_eq_getElem hj]
    · have h3 : ¬ i < min j xs.length := by omega
      have h4 : ¬ i < min (j + 1) xs.length := by omega
      have h5 : ¬ j = i := by omega
      simp only [h5, h3, h4, if_false]
      congr 1
      omega
theorem mixed_get_right {α} (xs ys : List α) (d : α) (j i : Nat) (hi : j ≤ i) (hj : j ≤ xs.length) : (mixed xs ys j).getD i d = ys.getD i d := by
  simp only [mixed, List.getD_eq_getElem?_getD]
  rw [List.getElem?_append_right (by simp; omega)]
  simp only [List.length_take, List.getElem?_drop]
  congr 2
  omega

/-- A list of n numbers told by a function. -/
def tab (n : Nat) (f : Nat → Int) : List Int := (List.range n).map f
theorem tab_length (n : Nat) (f : Nat → Int) : (tab n f).length = n := by simp [tab]
theorem tab_get (n : Nat) (f : Nat → Int) (i : Nat) (h : i < n) : (tab n f).getD i 0 = f i := by simp [tab, List.getD_eq_getElem?_getD, h]
theorem tab_succ (n : Nat) (f : Nat → Int) : tab (n + 1) f = tab n f ++ [f n] := by simp [tab, List.range_succ]

end Go.Proofs.Yteobnbichpadjaa.Gen
end

section
/- Plain facts on floats told by their worth: what equals itself, what is no NaN. -/
set_option linter.unusedVariables false
set_option linter.unusedSimpArgs false
namespace Go.Proofs.Yteobnbichpadjaa.Gen
open Go.RowKit Go.Proofs.YteobnbichpadjaaW.PrintWords Go.Proofs.YteobnbichpadjaaW.PrintFlt

theorem fne_eq (x y : Nat) : fne x y = !feq x y := rfl
theorem order_self (d : Ieee.Datum) (h : d.isNaN = false) : d.order d = some .eq := by
  cases d with
  | number s m e =>
    simp only [Ieee.Datum.order, Option.some.injEq]
    exact Std.ReflCmp.compare_self
  | infinity s => cases s <;> rfl
  | nan s f => simp [Ieee.Datum.isNaN] at h
theorem feq_self (x : Nat) : feq x x = !isn x := by
  unfold feq isn Ieee.Format.order
  cases h : (Ieee.double.read x).isNaN with
  | false => rw [order_self _ h]; rfl
  | true =>
    obtain ⟨s, f, e⟩ := read_nan (b := x) h
    rw [e]
    rfl
theorem fne_self (x : Nat) : fne x x = isn x := by rw [fne_eq, feq_self, Bool.not_not]
theorem isn_word (s : Bool) (r : Nat) (h : r ≤ Ieee.double.infRung) : isn (Ieee.double.word s r) = false := by
  have h1 : Ieee.double.signWeight = 2 ^ 63 := by decide
  have h2 : Ieee.double.binade = 2 ^ 52 := by decide
  have h3 : Ieee.double.infRung = 0x7ff0000000000000 := by decide +kernel
  rw [h3] at h
  have hm : Ieee.double.word s r % 2 ^ 63 = r := by
    unfold Ieee.Format.word
    rw [h1]
    cases s <;> simp <;> omega
  unfold isn Ieee.Format.read
  simp only [h1, h2, h3, hm]
  split
  · rfl
  · split
    · rfl
    · rw [if_pos (by omega)]
      rfl
theorem isn_nearest (s : Bool) (m : Nat) (p : Int) : isn (Ieee.double.nearest s m p) = false := by
  unfold Ieee.Format.nearest
  dsimp only
  split
  · exact isn_word _ _ (Nat.zero_le _)
  · exact isn_word _ _ (Nat.min_le_right ..)
theorem isn_foi (n : Int) : isn (foi n) = false := isn_nearest _ _ _
theorem isn_write (d : Ieee.Datum) (h : d.isNaN = false) : isn (Ieee.double.write d) = false := by
  cases d with
  | number s m e => exact isn_nearest _ _ _
  | infinity s => exact isn_word _ _ (Nat.le_refl _)
  | nan s f => simp [Ieee.Datum.isNaN] at h
/-- Is it a number? -/
def fin (x : Nat) : Bool := match Ieee.double.read x with
  | .number .. => true
  | _ => false
theorem sub_self (d : Ieee.Datum) : (d.sum d.opposite).map Ieee.double.write = match d with
    | .number .. => some 0
    | _ => none := by
  cases d with
  | number s m e =>
    have h0 : ∀ u, Ieee.signed s m u + Ieee.signed (!s) m u = 0 := by
      intro u
      unfold Ieee.signed
      cases s <;> simp <;> omega
    simp only [Ieee.Datum.opposite, Ieee.Datum.sum, h0, if_true]
    have : (s && !s) = false := by cases s <;> rfl
    simp only [this, Int.natAbs_zero, Option.map_some, Ieee.Format.write, Ieee.Format.nearest, if_true]
    rfl
  | infinity s => cases s <;> rfl
  | nan s f => rfl
theorem known1 (x : Nat) : feq (fsub x x) 0 = fin x := by
  unfold fsub Ieee.Format.sub fin
  rw [sub_self]
  cases h : Ieee.double.read x with
  | number s m e => exact (by decide +kernel : feq 0 0 = true)
  | infinity s => exact (by decide +kernel : feq qnan 0 = false)
  | nan s f => exact (by decide +kernel : feq qnan 0 = false)
theorem read_mod (x : Nat) : Ieee.double.read (x % 9223372036854775808) = match Ieee.double.read x with
    | .number _ m e => .number false m e
    | .infinity _ => .infinity false
    | .nan _ f => .nan false f := by
  have h1 : Ieee.double.signWeight = 9223372036854775808 := by decide +kernel
  have h2 : (x % 9223372036854775808) / 9223372036854775808 % 2 = 0 := by omega
  unfold Ieee.Format.read
  simp only [h1, Nat.mod_mod, h2]
  by_cases c1 : x % 9223372036854775808 < Ieee.double.binade
  · simp only [c1, if_true]; rfl
  · by_cases c2 : x % 9223372036854775808 < Ieee.double.infRung
    · simp only [c1, c2, if_true, if_false]; rfl
    · by_cases c3 : x % 9223372036854775808 = Ieee.double.infRung
      · simp only [c1, c2, c3, if_true, if_false]; rfl
      · simp only [c1, c2, c3, if_false]; rfl
theorem read_bound {x : Nat} {s : Bool} {m : Nat} {e : Int} (h : Ieee.double.read x = .number s m e) : m ≤ 9007199254740991 ∧ -1074 ≤ e ∧ e ≤ 971 := by
  have h1 : Ieee.double.signWeight = 9223372036854775808 := by decide +kernel
  have h2 : Ieee.double.binade = 4503599627370496 := by decide +kernel
  have h3 : Ieee.double.infRung = 9218868437227405312 := by decide +kernel
  have h4 : Ieee.double.leastPlace = -1074 := by decide +kernel
  unfold Ieee.Format.read at h
  simp only [h1, h2, h3, h4] at h
  split at h
  · injection h with _ hm he
    omega
  · split at h
    · injection h with _ hm he
      omega
    · split at h <;> cases h
theorem known2 (x : Nat) : (!isn x && !fgt (fabs x) 9218868437227405311) = fin x := by
  unfold fabs fin
  cases h : Ieee.double.read x with
  | number s m e =>
    have hn : isn x = false := by unfold isn; rw [h]; rfl
    have hm : Ieee.double.read 9218868437227405311 = .number false 9007199254740991 971 := by decide +kernel
    obtain ⟨b1, b2, b3⟩ := read_bound h
    have hg : fgt (x % 9223372036854775808) 9218868437227405311 = false := by
      unfold fgt Ieee.Format.order
      rw [read_mod, h, hm]
      simp only [Ieee.Datum.order]
      have hmin : min e 971 = e := by omega
      rw [hmin]
      have ha : Ieee.signed false m (e - e).toNat = (m : Int) := by simp [Ieee.signed]
      have hb : (m : Int) ≤ Ieee.signed false 9007199254740991 (971 - e).toNat := by
        simp only [Ieee.signed, Bool.false_eq_true, if_false, Nat.shiftLeft_eq]
        have h2 : 1 ≤ 2 ^ (971 - e).toNat := Nat.one_le_two_pow
        have := Nat.mul_le_mul (Nat.le_refl 9007199254740991) h2
        omega
      rw [ha]
      generalize Ieee.signed false 9007199254740991 (971 - e).toNat = q at hb
      have : compare (m : Int) q ≠ .gt := by
        intro hc
        have := Int.compare_eq_gt.mp hc
        omega
      cases hc : compare (m : Int) q with
      | gt => exact absurd hc this
      | lt => rfl
      | eq => rfl
    rw [hn, if_neg (by decide), hg]
    rfl
  | infinity s =>
    have hn : isn x = false := by unfold isn; rw [h]; rfl
    have hm : Ieee.double.read 9218868437227405311 = .number false 9007199254740991 971 := by decide +kernel
    have hg : fgt (x % 9223372036854775808) 9218868437227405311 = true := by
      unfold fgt Ieee.Format.order
      rw [read_mod, h, hm]
      rfl
    rw [hn, if_neg (by decide), hg]
    rfl
  | nan s f =>
    have hn : isn x = true := by unfold isn; rw [h]; rfl
    rw [hn]
    rfl
theorem fin_isn {x : Nat} (h : fin x = true) : isn x = false := by
  unfold fin at h
  unfold isn
  split at h
  · rename_i e; rw [e]; rfl
  · cases h
end Go.Proofs.Yteobnbichpadjaa.Gen
end

section
/- Bounds: what the program's and the reference's tests of ranges answer. -/
set_option linter.unusedVariables false
set_option linter.unusedSimpArgs false
namespace Go.Proofs.Yteobnbichpadjaa.Gen
open Go.RowKit Go.Proofs.Yteobnbichpadjaa.Q Go.Proofs.Yteobnbichpadjaa.Gen Go.Proofs.YteobnbichpadjaaW.PrintWords Go.Proofs.YteobnbichpadjaaW.PrintMore

def inS (a b c : Int) : Bool := decide (b ≤ a) && decide (a ≤ c)
theorem inS_iff (a b c : Int) : inS a b c = true ↔ b ≤ a ∧ a ≤ c := by simp [inS]
theorem l2In_s (a b c : Int) : spec_l2In.f a b c = some (inS a b c) := by
  unfold spec_l2In.f inS; by_cases h : a ≥ b <;> simp [h, show b ≤ a ↔ a ≥ b from Iff.rfl]
theorem in_s (a b c : Int) : impl_in.f a b c = some (inS a b c) := by
  unfold impl_in.f inS; by_cases h : a ≥ b <;> simp [h, show b ≤ a ↔ a ≥ b from Iff.rfl]

end Go.Proofs.Yteobnbichpadjaa.Gen
end

section
/- What the helpers of the laws answer for lists of Prob, Bin: copies, comparisons, marks; for lists of at most 2^20 elements. -/
set_option linter.unusedVariables false
set_option linter.unusedSimpArgs false
namespace Go.Proofs.Yteobnbichpadjaa.Gen
open Go.RowKit Go.Proofs.Yteobnbichpadjaa.Q Go.Proofs.YteobnbichpadjaaW.PrintWords Go.Proofs.YteobnbichpadjaaW.PrintMore Go.Proofs.YteobnbichpadjaaW.PrintFlt

theorem rdset34 (l : List S34) (e : S34) (j : Nat) (h : j < l.length) : rd_T34 (l.set j e) (j : Int) = e := by simp [rd_T34, List.getD_eq_getElem?_getD, h]
theorem rdn34 (l : List S34) (j : Nat) : rd_T34 l (j : Int) = l.getD j z34 := by simp [rd_T34]
def convProb (x : S72) : S34 := ⟨x.f0, x.f1⟩
theorem toProb_eq (x : S72) : laws_toProb.f x.f0 x.f1 = some (x.f0, x.f1) := by unfold laws_toProb.f; rfl
theorem toProbS_ev (l : List S72) (h : l.length ≤ 1048576) : Ev (fun k => laws_toProbS.f k l) (l.map convProb) := by
  simp only [laws_toProbS.f]
  refine evPos (by omega) (evPos (by simp; omega) ?_)
  have := count (fun k i (s : List S34) => laws_toProbS.l0 k l s i) l.length (fun j => mixed (l.map convProb) (List.replicate l.length z34) j) (l.map convProb) ?_ ?_ 0 (by omega)
  · simpa [mixed_zero] using this
  · intro j hj
    refine ⟨0, fun k _ => ?_⟩
    simp only [laws_toProbS.l0]
    rw [if_pos (by omega), if_pos (by omega), toProb_eq, Option.bind_some, if_pos (by rw [mixed_length _ _ _ (by simp)]; simp; omega), up1 (by omega), Int.toNat_natCast]
    have hm := mixed_set (l.map convProb) (List.replicate l.length z34) z34 j (by simp) (by simpa using hj)
    rw [← hm]
    congr 2
    simp [rd_T72, convProb, List.getD_eq_getElem?_getD, hj]
  · refine Ev_succ (fun k => ?_)
    simp only [laws_toProbS.l0]
    have hm := mixed_all (l.map convProb) (List.replicate l.length z34) (by simp)
    rw [List.length_map] at hm
    rw [if_neg (by omega), hm]

theorem eqProb_ev (x : S34) : Ev (fun k => laws_eqProb.f x.f0 x.f1 x.f0 x.f1) true := by
  have : laws_eqProb.f x.f0 x.f1 x.f0 x.f1 = some true := by unfold laws_eqProb.f; simp
  simp only [this]
  exact Ev.now _
theorem eqProbS_ev (l : List S34) (h : l.length ≤ 1099511627776) : Ev (fun k => laws_eqProbS.f k l l) true := by
  simp only [laws_eqProbS.f]
  refine evPos trivial ?_
  refine scanE (fun k i => laws_eqProbS.l0 k l l i) l.length (fun _ => true) ?_ ?_ 0 (by omega)
  · intro j hj ih
    refine Ev.step (fun k => laws_eqProbS.l0.eq_2 _ _ _ k) ?_
    refine evPos (by omega) (evPos (by omega) (evPos (by omega) (Ev.bind (eqProb_ev _) (evPos rfl ?_))))
    rw [up1 (by omega)]
    exact ih
  · refine Ev_succ (fun k => ?_)
    simp only [laws_eqProbS.l0]
    rw [if_neg (by omega)]

/-- Element i of the marked list. -/
def mkProb (a i : Nat) : S34 := ⟨((a + 2 * i + 0 : Nat) : Int), decide (Int.tmod ((a + 2 * i + 1 : Nat) : Int) 3 = 0)⟩
def marksProb (a m : Nat) : List S34 := (List.range m).map (mkProb a)
theorem marksProb_length (a m : Nat) : (marksProb a m).length = m := by simp [marksProb]
theorem marksProb_get (a m i : Nat) (h : i < m) : (marksProb a m).getD i z34 = mkProb a i := by simp [marksProb, List.getD_eq_getElem?_getD, h]
theorem markProbS_ev (l : List S34) (a : Nat) (h : l.length ≤ 1099511627776) (ha : a ≤ 1152921504606846976) : Ev (fun k => laws_markProbS.f k l (a : Int)) (((a + 2 * l.length : Nat) : Int), marksProb a l.length) := by
  simp only [laws_markProbS.f]
  have := count (fun k i (s : List S34 × Int) => laws_markProbS.l0 k s.1 s.2 i) l.length (fun j => (mixed (marksProb a l.length) l j, ((a + 2 * j : Nat) : Int))) (((a + 2 * l.length : Nat) : Int), marksProb a l.length) ?_ ?_ 0 (by omega)
  · simpa [mixed_zero] using this
  · intro j hj
    refine ⟨0, fun k _ => ?_⟩
    have hL : (mixed (marksProb a l.length) l j).length = l.length := by rw [mixed_length _ _ _ (by rw [marksProb_length]), marksProb_length]
    have hm := mixed_set (marksProb a l.length) l z34 j (by rw [marksProb_length]) (by rw [marksProb_length]; exact hj)
    rw [marksProb_get _ _ _ hj] at hm
    have hj2 : j < (mixed (marksProb a l.length) l j).length := by omega
    have hj3 : ∀ e, j < ((mixed (marksProb a l.length) l j).set j e).length := by intro e; rw [List.length_set]; exact hj2
    simp only [laws_markProbS.l0]
    rw [if_pos (by omega), if_pos (by omega)]
    simp only [Option.bind_some, Int.toNat_natCast, List.set_set, rdset34 _ _ _ hj2, rdset34 _ _ _ (hj3 _)]
    rw [up1 (j := a + 2 * j) (by omega), up1 (j := a + 2 * j + 1) (by omega), up1 (j := j) (by omega)]
    show laws_markProbS.l0 k _ _ _ = laws_markProbS.l0 k _ _ _
    rw [← hm]
    congr 1
  · refine Ev_succ (fun k => ?_)
    simp only [laws_markProbS.l0]
    rw [if_neg (by rw [mixed_length _ _ _ (by rw [marksProb_length]), marksProb_length]; omega)]
    have := mixed_all (marksProb a l.length) l (by rw [marksProb_length])
    rw [marksProb_length] at this
    rw [this]

theorem szProbS_ok (l : List S72) (h : l.length ≤ 1048576) : Ev (fun _ : Nat => laws_szProbS.f l 1048576) (1048576 - (l.length : Int)) := by
  unfold laws_szProbS.f
  rw [w64 (x := 1048576 - (l.length : Int)) (by omega) (by omega), if_neg (by omega)]
  exact Ev.now _
theorem szProbS_big (l : List S72) (h0 : l.length ≤ 9223372036854775807) (h : ¬ l.length ≤ 1048576) : Ev (fun _ : Nat => laws_szProbS.f l 1048576) (-1) := by
  unfold laws_szProbS.f
  rw [w64 (x := 1048576 - (l.length : Int)) (by omega) (by omega), if_pos (by omega)]
  exact Ev.now _

theorem rdset36 (l : List S36) (e : S36) (j : Nat) (h : j < l.length) : rd_T36 (l.set j e) (j : Int) = e := by simp [rd_T36, List.getD_eq_getElem?_getD, h]
theorem rdn36 (l : List S36) (j : Nat) : rd_T36 l (j : Int) = l.getD j z36 := by simp [rd_T36]
theorem eqBin_ev (x : S36) : Ev (fun k => laws_eqBin.f x.f0 x.f1 x.f0 x.f1) true := by
  have : laws_eqBin.f x.f0 x.f1 x.f0 x.f1 = some true := by unfold laws_eqBin.f; simp
  simp only [this]
  exact Ev.now _
theorem eqBinS_ev (l : List S36) (h : l.length ≤ 1099511627776) : Ev (fun k => laws_eqBinS.f k l l) true := by
  simp only [laws_eqBinS.f]
  refine evPos trivial ?_
  refine scanE (fun k i => laws_eqBinS.l0 k l l i) l.length (fun _ => true) ?_ ?_ 0 (by omega)
  · intro j hj ih
    refine Ev.step (fun k => laws_eqBinS.l0.eq_2 _ _ _ k) ?_
    refine evPos (by omega) (evPos (by omega) (evPos (by omega) (Ev.bind (eqBin_ev _) (evPos rfl ?_))))
    rw [up1 (by omega)]
    exact ih
  · refine Ev_succ (fun k => ?_)
    simp only [laws_eqBinS.l0]
    rw [if_neg (by omega)]

/-- Element i of the marked list. -/
def mkBin (a i : Nat) : S36 := ⟨((a + 2 * i + 0 : Nat) : Int), ((a + 2 * i + 1 : Nat) : Int)⟩
def marksBin (a m : Nat) : List S36 := (List.range m).map (mkBin a)
theorem marksBin_length (a m : Nat) : (marksBin a m).length = m := by simp [marksBin]
theorem marksBin_get (a m i : Nat) (h : i < m) : (marksBin a m).getD i z36 = mkBin a i := by simp [marksBin, List.getD_eq_getElem?_getD, h]
theorem markBinS_ev (l : List S36) (a : Nat) (h : l.length ≤ 1099511627776) (ha : a ≤ 1152921504606846976) : Ev (fun k => laws_markBinS.f k l (a : Int)) (((a + 2 * l.length : Nat) : Int), marksBin a l.length) := by
  simp only [laws_markBinS.f]
  have := count (fun k i (s : List S36 × Int) => laws_markBinS.l0 k s.1 s.2 i) l.length (fun j => (mixed (marksBin a l.length) l j, ((a + 2 * j : Nat) : Int))) (((a + 2 * l.length : Nat) : Int), marksBin a l.length) ?_ ?_ 0 (by omega)
  · simpa [mixed_zero] using this
  · intro j hj
    refine ⟨0, fun k _ => ?_⟩
    have hL : (mixed (marksBin a l.length) l j).length = l.length := by rw [mixed_length _ _ _ (by rw [marksBin_length]), marksBin_length]
    have hm := mixed_set (marksBin a l.length) l z36 j (by rw [marksBin_length]) (by rw [marksBin_length]; exact hj)
    rw [marksBin_get _ _ _ hj] at hm
    have hj2 : j < (mixed (marksBin a l.length) l j).length := by omega
    have hj3 : ∀ e, j < ((mixed (marksBin a l.length) l j).set j e).length := by intro e; rw [List.length_set]; exact hj2
    simp only [laws_markBinS.l0]
    rw [if_pos (by omega), if_pos (by omega)]
    simp only [Option.bind_some, Int.toNat_natCast, List.set_set, rdset36 _ _ _ hj2, rdset36 _ _ _ (hj3 _)]
    rw [up1 (j := a + 2 * j) (by omega), up1 (j := a + 2 * j + 1) (by omega), up1 (j := j) (by omega)]
    show laws_markBinS.l0 k _ _ _ = laws_markBinS.l0 k _ _ _
    rw [← hm]
    congr 1
  · refine Ev_succ (fun k => ?_)
    simp only [laws_markBinS.l0]
    rw [if_neg (by rw [mixed_length _ _ _ (by rw [marksBin_length]), marksBin_length]; omega)]
    have := mixed_all (marksBin a l.length) l (by rw [marksBin_length])
    rw [marksBin_length] at this
    rw [this]

theorem heldBinS_ev (m a : Nat) (h : m ≤ 1099511627776) (ha : a ≤ 1152921504606846976) : Ev (fun k => laws_heldBinS.f k (marksBin a m) (a : Int)) ((a + 2 * m : Nat) : Int) := by
  simp only [laws_heldBinS.f]
  refine count (fun k i (s : Int) => laws_heldBinS.l0 k (marksBin a m) s i) m (fun j => ((a + 2 * j : Nat) : Int)) ((a + 2 * m : Nat) : Int) ?_ ?_ 0 (by omega)
  · intro j hj
    refine ⟨0, fun k _ => ?_⟩
    simp only [laws_heldBinS.l0]
    rw [if_pos (by rw [marksBin_length]; omega), if_pos (by omega)]
    rw [rdn36, marksBin_get _ _ _ hj]
    rw [if_pos (show (mkBin a j).f0 = ((a + 2 * j : Nat) : Int) from rfl)]
    rw [up1 (j := a + 2 * j) (by omega)]
    rw [if_pos (show (mkBin a j).f1 = ((a + 2 * j + 1 : Nat) : Int) from rfl)]
    rw [up1 (j := a + 2 * j + 1) (by omega)]
    rw [up1 (j := j) (by omega)]
    rfl
  · refine Ev_succ (fun k => ?_)
    simp only [laws_heldBinS.l0]
    rw [if_neg (by rw [marksBin_length]; omega)]

end Go.Proofs.Yteobnbichpadjaa.Gen
end

section
/- The plain statement of the law FnExactReliable: program and reference count the same answers into the same bins, and hand back a list of their own; no condition. -/
set_option linter.unusedVariables false
set_option linter.unusedSimpArgs false
namespace Go.Proofs.Yteobnbichpadjaa.Pure
open Go.RowKit Go.Proofs.Yteobnbichpadjaa.Q Go.Proofs.Yteobnbichpadjaa.Gen Go.Proofs.YteobnbichpadjaaW.PrintWords Go.Proofs.YteobnbichpadjaaW.PrintMore

def Fair (l : List S34) : Prop := ∀ i : Nat, i < l.length → 0 ≤ (rd_T34 l (i : Int)).f0 ∧ (rd_T34 l (i : Int)).f0 ≤ 100
theorem ok_both (l : List S34) (h : l.length ≤ 1048576) : ∃ b : Bool, Ev (fun k => spec_l18ToldOk.f k l) b ∧ Ev (fun k => impl_probsOk.f k l) b ∧ (b = true → l.length ≤ 1000 ∧ Fair l) := by
  simp only [spec_l18ToldOk.f, impl_probsOk.f]
  by_cases hn : l.length ≤ 1000
  rotate_left
  · exact ⟨false, evPos (by omega) (Ev.now _), evPos (by omega) (Ev.now _), fun h => by cases h⟩
  have main : ∀ t j, j + t = l.length → ∃ b : Bool, Ev (fun k => spec_l18ToldOk.l0 k l (j : Int)) b ∧ Ev (fun k => impl_probsOk.l0 k l (l.length : Int) (j : Int)) b ∧ (b = true → ∀ i : Nat, j ≤ i → i < l.length → 0 ≤ (rd_T34 l (i : Int)).f0 ∧ (rd_T34 l (i : Int)).f0 ≤ 100) := by
    intro t
    induction t with
    | zero => intro j hj; exact ⟨true, Ev.step (fun k => spec_l18ToldOk.l0.eq_2 _ _ k) (evNeg (by omega) (Ev.now _)), Ev.step (fun k => impl_probsOk.l0.eq_2 _ _ _ k) (evNeg (by omega) (Ev.now _)), fun _ i h1 h2 => by omega⟩
    | succ t ih =>
      intro j hj
      obtain ⟨b, hs, hi, hb⟩ := ih (j + 1) (by omega)
      have u := up1 (j := j) (by omega)
      replace u := Aside0.mk u
      by_cases c : inS (rd_T34 l (j : Int)).f0 0 100 = true
      · refine ⟨b, Ev.step (fun k => spec_l18ToldOk.l0.eq_2 _ _ k) (evPos (by omega) (evPos (by omega) ?_)), Ev.step (fun k => impl_probsOk.l0.eq_2 _ _ _ k) (evPos (by omega) (evPos (by omega) (evPos (by omega) ?_))), fun hh i h1 h2 => ?_⟩
        · simp only [l2In_s, c, Option.bind_some]
          rw [u.out]; exact evPos trivial hs
        · simp only [in_s, c, Option.bind_some]
          rw [u.out]; exact evPos trivial hi
        · by_cases e : i = j
          · rw [e]; exact (inS_iff _ _ _).1 c
          · exact hb hh i (by omega) h2
      · rw [Bool.not_eq_true] at c
        refine ⟨false, Ev.step (fun k => spec_l18ToldOk.l0.eq_2 _ _ k) (evPos (by omega) (evPos (by omega) ?_)), Ev.step (fun k => impl_probsOk.l0.eq_2 _ _ _ k) (evPos (by omega) (evPos (by omega) (evPos (by omega) ?_))), fun h => by cases h⟩
        · simp only [l2In_s, c, Option.bind_some]
          exact evNeg (by decide) (Ev.now _)
        · simp only [in_s, c, Option.bind_some]
          exact evNeg (by decide) (Ev.now _)
  obtain ⟨b, hs, hi, hb⟩ := main l.length 0 (by omega)
  exact ⟨b, evNeg (by omega) hs, evNeg (by omega) hi, fun hh => ⟨hn, fun i hi => hb hh i (Nat.zero_le _) hi⟩⟩

def bin (l : List S34) (i : Nat) : Nat := (rd_T34 l (i : Int)).f0.toNat / 10
/-- What bin b holds of the first n answers. -/
def cb (l : List S34) (b : Nat) : Nat → S36
  | 0 => ⟨0, 0⟩
  | n + 1 => if bin l n = b then ⟨wrap64 ((cb l b n).f0 + 1), if (rd_T34 l (n : Int)).f1 = true then wrap64 ((cb l b n).f1 + 1) else (cb l b n).f1⟩ else cb l b n
theorem bin_eq (l : List S34) (h : Fair l) (i : Nat) (hi : i < l.length) : wrap64 (Int.tdiv (rd_T34 l (i : Int)).f0 10) = ((bin l i : Nat) : Int) ∧ bin l i ≤ 10 := by
  obtain ⟨h0, h1⟩ := h i hi
  unfold bin
  obtain ⟨p, hp⟩ := Int.eq_ofNat_of_zero_le h0
  rw [hp] at h1 ⊢
  have e : Int.tdiv (p : Int) 10 = ((p / 10 : Nat) : Int) := rfl
  rw [e, Int.toNat_natCast]
  exact ⟨w64 (by omega) (by omega), by omega⟩
theorem upd (m q : Nat) (f f' : Nat → S36) (hq : q < m) (h : ∀ b, b ≠ q → f' b = f b) : ((List.range m).map f).set q (f' q) = (List.range m).map f' := by
  apply List.ext_getElem?
  intro i
  rw [List.getElem?_set]
  by_cases e : q = i
  · subst e
    simp [hq]
  · rw [if_neg e]
    by_cases hi : i < m
    · simp [hi, h i (fun x => e x.symm)]
    · simp [hi]
theorem rd_map (m q : Nat) (f : Nat → S36) (hq : q < m) : rd_T36 ((List.range m).map f) (q : Int) = f q := by
  simp [rdn36, List.getD_eq_getElem?_getD, hq]

theorem impl_loop (l : List S34) (hl : l.length ≤ 1000) (h : Fair l) : ∀ t j, j + t = l.length → Ev (fun k => impl_Reliable.l0 k ((List.range 11).map fun b => cb l b j) l (l.length : Int) (j : Int)) ((List.range 11).map fun b => cb l b l.length) := by
  intro t
  induction t with
  | zero =>
    intro j hj
    obtain rfl : j = l.length := by omega
    exact Ev.step (fun k => impl_Reliable.l0.eq_2 _ _ _ _ k) (evNeg (by omega) (Ev.now _))
  | succ t ih =>
    intro j hj
    have IH := ih (j + 1) (by omega)
    obtain ⟨e, hq⟩ := bin_eq l h j (by omega)
    have u := up1 (j := j) (by omega)
    replace u := Aside0.mk u
    replace e := Aside0.mk e
    have hlen : ((List.range 11).map fun b => cb l b j).length = 11 := by simp
    refine Ev.step (fun k => impl_Reliable.l0.eq_2 _ _ _ _ k) (evPos (by omega) (evPos (by omega) (evPos (by omega) ?_)))
    rw [e.out, u.out]
    refine evPos (by omega) (evPos (by rw [hlen]; omega) ?_)
    rw [Int.toNat_natCast, rd_map 11 _ _ (by omega)]
    simp only [Option.bind_some]
    rw [rdset36 _ _ _ (by rw [hlen]; omega)]
    have S := upd 11 (bin l j) (fun b => cb l b j) (fun b => cb l b (j + 1)) (by omega) (fun b hb => by
      show cb l b (j + 1) = cb l b j
      rw [cb, if_neg (fun x => hb x.symm)])
    have S0 : cb l (bin l j) (j + 1) = ⟨wrap64 ((cb l (bin l j) j).f0 + 1), if (rd_T34 l (j : Int)).f1 = true then wrap64 ((cb l (bin l j) j).f1 + 1) else (cb l (bin l j) j).f1⟩ := by rw [cb, if_pos rfl]
    simp only [S0] at S
    by_cases c : (rd_T34 l (j : Int)).f1 = true
    · refine evPos c ?_
      rw [List.set_set]
      rw [if_pos c] at S
      rw [S]
      exact IH
    · refine evNeg c ?_
      rw [if_neg c] at S
      rw [S]
      exact IH
theorem row_spec (l : List S34) (hl : l.length ≤ 1000) (h : Fair l) (b : Nat) (hb : b ≤ 10) (o : List S36) (ho : o.length ≤ 11) (X : List S36) (hX : Ev (fun k => spec_Reliable.l0 k l (o ++ [cb l b l.length]) ((b + 1 : Nat) : Int)) X) : ∀ t j, j + t = l.length → Ev (fun k => spec_Reliable.l1 k l o (b : Int) (j : Int) (cb l b j).f0 (cb l b j).f1) X := by
  intro t
  induction t with
  | zero =>
    intro j hj
    obtain rfl : j = l.length := by omega
    refine Ev.step (fun k => spec_Reliable.l1.eq_2 _ _ _ _ _ _ k) (evNeg (by omega) (evPos (by omega) ?_))
    rw [up1 (by omega)]
    exact hX
  | succ t ih =>
    intro j hj
    have IH := ih (j + 1) (by omega)
    obtain ⟨e, hq⟩ := bin_eq l h j (by omega)
    have u := up1 (j := j) (by omega)
    replace u := Aside0.mk u
    replace e := Aside0.mk e
    refine Ev.step (fun k => spec_Reliable.l1.eq_2 _ _ _ _ _ _ k) (evPos (by omega) (evPos (by omega) ?_))
    rw [e.out, u.out]
    rw [cb] at IH
    by_cases c : bin l j = b
    · rw [if_pos c] at IH
      refine evPos (by rw [c]) ?_
      by_cases c2 : (rd_T34 l (j : Int)).f1 = true
      · rw [if_pos c2] at IH
        exact evPos c2 IH
      · rw [if_neg c2] at IH
        exact evNeg c2 IH
    · rw [if_neg c] at IH
      exact evNeg (by omega) IH
theorem spec_loop (l : List S34) (hl : l.length ≤ 1000) (h : Fair l) : ∀ t b, b + t = 11 → Ev (fun k => spec_Reliable.l0 k l ((List.range b).map fun b => cb l b l.length) (b : Int)) ((List.range 11).map fun b => cb l b l.length) := by
  intro t
  induction t with
  | zero =>
    intro b hb
    obtain rfl : b = 11 := by omega
    exact Ev.step (fun k => spec_Reliable.l0.eq_2 _ _ _ k) (evNeg (by omega) (Ev.now _))
  | succ t ih =>
    intro b hb
    have IH := ih (b + 1) (by omega)
    rw [List.range_succ, List.map_append, List.map_singleton] at IH
    exact Ev.step (fun k => spec_Reliable.l0.eq_2 _ _ _ k) (evPos (by omega) (row_spec l hl h b (by omega) _ (by simp; omega) _ IH l.length 0 (by omega)))

theorem reliable_both (l : List S34) (h : l.length ≤ 1048576) : ∃ r : List S36, Ev (fun k => spec_Reliable.f k l) r ∧ Ev (fun k => impl_Reliable.f k l) r ∧ r.length ≤ 1048576 := by
  obtain ⟨b, hs, hi, hb⟩ := ok_both l h
  simp only [spec_Reliable.f, impl_Reliable.f, Option.bind_some]
  cases b with
  | false => exact ⟨[], Ev.bind hs (evNeg (by decide) (Ev.now _)), Ev.bind hi (evNeg (by decide) (Ev.now _)), Nat.zero_le _⟩
  | true =>
    obtain ⟨hl, hf⟩ := hb rfl
    have I0 := impl_loop l hl hf l.length 0 (by omega)
    have e : ((List.range 11).map fun b => cb l b 0) = List.replicate 11 z36 := by rfl
    rw [e] at I0
    exact ⟨_, Ev.bind hs (evPos rfl (spec_loop l hl hf 11 0 (by omega))), Ev.bind hi (evPos rfl (evPos (by decide) I0)), by simp⟩

theorem FnExactReliable : laws_FnExactReliable.Pure := by
  intro l h
  refine Ev.rounds ?_
  simp only [laws_FnExactReliable.f]
  by_cases hl : l.length ≤ 1048576
  rotate_left
  · exact Ev.bind (szProbS_big _ h hl) (evPos (by decide) (Ev.now _))
  obtain ⟨r, hs, hi, hr⟩ := reliable_both (l.map convProb) (by simpa using hl)
  refine Ev.bind (szProbS_ok _ hl) ?_
  refine evNeg (by first | omega | (simp; omega) | simp) ?_
  refine Ev.bind (toProbS_ev _ (by first | assumption | omega | (simp; omega))) ?_
  refine Ev.bind hs ?_
  refine Ev.bind (toProbS_ev _ (by first | assumption | omega | (simp; omega))) ?_
  refine Ev.bind hi ?_
  refine Ev.bind (eqBinS_ev _ (by first | assumption | omega | (simp; omega))) ?_
  refine evPos (by first | rfl | trivial | simp) ?_
  refine Ev.bind (toProbS_ev _ (by first | assumption | omega | (simp; omega))) ?_
  refine Ev.bind (eqProbS_ev _ (by first | assumption | omega | (simp; omega))) ?_
  refine evPos (by first | rfl | trivial | simp) ?_
  first | refine Ev.bind (markProbS_ev _ 1 (by first | omega | (simp; omega)) (by omega)) ?_ | refine Ev.bind (markProbS_ev _ _ (by first | omega | (simp; omega)) (by omega)) ?_
  refine evNeg (by first | omega | (simp; omega) | simp) ?_
  refine Ev.bind (eqBinS_ev _ (by first | assumption | omega | (simp; omega))) ?_
  refine Ev.step (fun k => laws_FnExactReliable.j0.eq_2 _ _ _ _ k) ?_
  refine evNeg (by simp) ?_
  first | refine Ev.bind (markBinS_ev _ 1 (by first | omega | (simp; omega)) (by omega)) ?_ | refine Ev.bind (markBinS_ev _ _ (by first | omega | (simp; omega)) (by omega)) ?_
  refine Ev.bind (heldBinS_ev _ 1 (by omega) (by omega)) ?_
  refine evNeg (by first | omega | (simp; omega) | simp) ?_
  refine evPos (by first | rfl | trivial | simp) ?_
  refine Ev.bind (toProbS_ev _ (by first | assumption | omega | (simp; omega))) ?_
  refine Ev.bind hi ?_
  refine Ev.bind (eqBinS_ev _ (by first | assumption | omega | (simp; omega))) ?_
  refine evPos (by first | rfl | trivial | simp) ?_
  refine Ev.bind (heldBinS_ev _ 1 (by omega) (by omega)) ?_
  refine evNeg (by first | omega | (simp; omega) | simp) ?_
  refine evPos (by first | rfl | trivial | simp) ?_
  exact Ev.now _
end Go.Proofs.Yteobnbichpadjaa.Pure
end

section
/- The drawing of arguments out of bytes: each of these functions ends, and what it draws lies in its range; no condition. -/
set_option linter.unusedVariables false
set_option linter.unusedSimpArgs false
namespace Go.Proofs.Yteobnbichpadjaa.Draw
open Go.RowKit Go.Proofs.Yteobnbichpadjaa.Q Go.Proofs.Yteobnbichpadjaa.Gen Go.Proofs.YteobnbichpadjaaW.PrintWords Go.Proofs.YteobnbichpadjaaW.PrintMore

/-- The bytes that are drawn from. -/
structure Src (l : List Int) : Prop where
  len : l.length ≤ 1048576
  byte : ∀ x ∈ l, 0 ≤ x ∧ x ≤ 255
/-- A place in them. -/
def At (l : List Int) (p : Int) : Prop := 0 ≤ p ∧ p ≤ l.length

theorem Src.rd_ {l : List Int} (h : Src l) (i : Int) : 0 ≤ rd l i ∧ rd l i ≤ 255 := by
  unfold rd
  rw [List.getD_eq_getElem?_getD]
  by_cases hi : i.toNat < l.length
  · rw [List.getElem?_eq_getElem hi]; exact h.byte _ (List.getElem_mem hi)
  · rw [List.getElem?_eq_none (by omega)]; decide

theorem wrap64_range (x : Int) : -9223372036854775808 ≤ wrap64 x ∧ wrap64 x ≤ 9223372036854775807 := by unfold wrap64; omega

theorem next_ok {l : List Int} (h : Src l) {p : Int} (hp : At l p) : ∃ v q, spec_l1Rd_next.f l p = some (v, q) ∧ 0 ≤ v ∧ v ≤ 255 ∧ At l q := by
  unfold At at hp
  have hl := h.len
  unfold spec_l1Rd_next.f
  by_cases c : p ≥ (l.length : Int)
  · rw [if_pos c]
    exact ⟨_, _, rfl, by omega, by omega, hp⟩
  · have hr := h.rd_ p
    rw [if_neg c, w64 (x := p + 1) (by omega) (by omega), w64 (x := p + 1 - 1) (by omega) (by omega), show p + 1 - 1 = p by omega, if_pos (by omega), if_pos (by omega), w64 (x := rd l p) (by omega) (by omega)]
    exact ⟨_, _, rfl, by omega, by omega, by unfold At; omega⟩
theorem below_ok {l : List Int} (h : Src l) {p : Int} (hp : At l p) (n : Int) (hn : 1 ≤ n) : ∃ v q, spec_l1Rd_below.f l p n = some (v, q) ∧ 0 ≤ v ∧ v < n ∧ At l q := by
  unfold spec_l1Rd_below.f
  by_cases c : n ≤ 1
  · rw [if_pos c]
    exact ⟨_, _, rfl, by omega, by omega, hp⟩
  · rw [if_neg c]
    obtain ⟨v, q, e, v0, v1, hq⟩ := next_ok h hp
    by_cases d : n ≤ 256
    · rw [if_pos d, e, Option.bind_some, if_neg (by omega)]
      exact ⟨_, _, rfl, Int.tmod_nonneg _ v0, Int.tmod_lt_of_pos _ (by omega), hq⟩
    · obtain ⟨v', q', e', v0', v1', hq'⟩ := next_ok h hq
      rw [if_neg d, e, Option.bind_some, e', Option.bind_some, if_neg (by omega), w64 (x := v * 256) (by omega) (by omega), w64 (by omega) (by omega)]
      exact ⟨_, _, rfl, Int.tmod_nonneg _ (by omega), Int.tmod_lt_of_pos _ (by omega), hq'⟩
theorem size_ok {l : List Int} (h : Src l) {p : Int} (hp : At l p) (per most : Int) (h1 : 1 ≤ per) (h2 : 1 ≤ most) (h3 : most ≤ 1048576) : ∃ v q, spec_l1Rd_size.f l p per most = some (v, q) ∧ 1 ≤ v ∧ v ≤ most ∧ At l q := by
  unfold spec_l1Rd_size.f
  have hl := h.len
  have d0 : 0 ≤ (l.length : Int) / per := Int.ediv_nonneg (by omega) (by omega)
  have d1 : (l.length : Int) / per ≤ l.length := Int.ediv_le_self _ (by omega)
  rw [if_neg (by omega), w64 (x := (l.length : Int) / per) (by omega) (by omega), w64 (by omega) (by omega)]
  by_cases c : 1 + (l.length : Int) / per > most
  · obtain ⟨v, q, e, v0, v1, hq⟩ := below_ok h hp most h2
    rw [if_pos c, e, Option.bind_some, w64 (by omega) (by omega)]
    exact ⟨_, _, rfl, by omega, by omega, hq⟩
  · obtain ⟨v, q, e, v0, v1, hq⟩ := below_ok h hp (1 + (l.length : Int) / per) (by omega)
    rw [if_neg c, e, Option.bind_some, w64 (by omega) (by omega)]
    exact ⟨_, _, rfl, by omega, by omega, hq⟩

end Go.Proofs.Yteobnbichpadjaa.Draw
end

section
/- The plain statement of the law FnTables: the four counts of every drawn list are together all of it, the bins hold all of it, and a higher bound says yes no more often; no condition. -/
set_option linter.unusedVariables false
set_option linter.unusedSimpArgs false
namespace Go.Proofs.Yteobnbichpadjaa.Pure
open Go.RowKit Go.Proofs.Yteobnbichpadjaa.Q Go.Proofs.Yteobnbichpadjaa.Gen Go.Proofs.Yteobnbichpadjaa.Draw Go.Proofs.YteobnbichpadjaaW.PrintWords Go.Proofs.YteobnbichpadjaaW.PrintMore

/-- How many of the first j are such. -/
def ct (p : Nat → Bool) : Nat → Nat
  | 0 => 0
  | j + 1 => ct p j + (if p j = true then 1 else 0)
theorem ct_le (p : Nat → Bool) : ∀ j, ct p j ≤ j := by
  intro j
  induction j with
  | zero => exact Nat.le_refl _
  | succ j ih => unfold ct; split <;> omega
theorem ct_mono (p q : Nat → Bool) (h : ∀ t, p t = true → q t = true) : ∀ j, ct p j ≤ ct q j := by
  intro j
  induction j with
  | zero => exact Nat.le_refl _
  | succ j ih =>
    unfold ct
    by_cases c : p j = true
    · rw [if_pos c, if_pos (h j c)]; omega
    · rw [if_neg c]; omega
/-- Those of them that are of bin b. -/
def cw (g : Nat → Nat) (p : Nat → Bool) (b : Nat) : Nat → Nat
  | 0 => 0
  | j + 1 => cw g p b j + (if g j = b then (if p j = true then 1 else 0) else 0)
theorem cw_le (g : Nat → Nat) (p : Nat → Bool) (b : Nat) : ∀ j, cw g p b j ≤ j := by
  intro j
  induction j with
  | zero => exact Nat.le_refl _
  | succ j ih =>
    unfold cw
    split
    · split <;> omega
    · omega
def ss (f : Nat → Nat) : Nat → Nat
  | 0 => 0
  | i + 1 => ss f i + f i
theorem ss_step (g : Nat → Nat) (p : Nat → Bool) (j : Nat) : ∀ i, ss (fun b => cw g p b (j + 1)) i = ss (fun b => cw g p b j) i + (if g j < i then (if p j = true then 1 else 0) else 0) := by
  intro i
  induction i with
  | zero => rfl
  | succ i ih =>
    show ss (fun b => cw g p b (j + 1)) i + cw g p i (j + 1) = (ss (fun b => cw g p b j) i + cw g p i j) + _
    rw [ih]
    show _ + (cw g p i j + (if g j = i then (if p j = true then 1 else 0) else 0)) = _
    generalize (if p j = true then 1 else 0) = z
    by_cases c : g j = i
    · rw [if_pos c, if_neg (by omega), if_pos (by omega)]; omega
    · rw [if_neg c]
      by_cases d : g j < i
      · rw [if_pos d, if_pos (by omega)]; omega
      · rw [if_neg d, if_neg (by omega)]; omega
theorem ss_all (g : Nat → Nat) (p : Nat → Bool) (m n : Nat) (h : ∀ t, t < n → g t < m) : ∀ j, j ≤ n → ss (fun b => cw g p b j) m = ct p j := by
  intro j
  induction j with
  | zero =>
    intro _
    have : ∀ i, ss (fun b => cw g p b 0) i = 0 := by
      intro i
      induction i with
      | zero => rfl
      | succ i ih => show ss (fun b => cw g p b 0) i + 0 = 0; rw [ih]
    exact this m
  | succ j ih =>
    intro hj
    rw [ss_step, ih (by omega), if_pos (h j (by omega))]
    rfl
theorem ss_le (f : Nat → Nat) (m : Nat) : ∀ i, i ≤ m → ss f i ≤ ss f m := by
  induction m with
  | zero =>
    intro i hi
    rw [show i = 0 by omega]
    exact Nat.le_refl _
  | succ m ih =>
    intro i hi
    by_cases c : i = m + 1
    · rw [c]; exact Nat.le_refl _
    · have := ih i (by omega)
      show ss f i ≤ ss f m + f m
      omega

def hit (l : List S34) (t : Nat) : Bool := (rd_T34 l (t : Int)).f1
theorem cb_eq (l : List S34) (b : Nat) : ∀ j, j ≤ 1000 → (cb l b j).f0 = ((cw (bin l) (fun _ => true) b j : Nat) : Int) ∧ (cb l b j).f1 = ((cw (bin l) (hit l) b j : Nat) : Int) := by
  intro j
  induction j with
  | zero => intro _; exact ⟨rfl, rfl⟩
  | succ j ih =>
    intro hj
    obtain ⟨h0, h1⟩ := ih (by omega)
    have l0 := cw_le (bin l) (fun _ => true) b j
    have l1 := cw_le (bin l) (hit l) b j
    unfold cb cw
    by_cases c : bin l j = b
    · rw [if_pos c, if_pos c, if_pos c, h0, h1, up1 (by omega), up1 (by omega)]
      refine ⟨by rfl, ?_⟩
      unfold hit
      by_cases d : (rd_T34 l (j : Int)).f1 = true
      · rw [if_pos d, if_pos d]
      · rw [if_neg d, if_neg d]; rfl
    · rw [if_neg c, if_neg c, if_neg c]
      exact ⟨h0, h1⟩

def yes (l : List S34) (p : Int) (t : Nat) : Bool := decide ((rd_T34 l (t : Int)).f0 ≥ p)
def cH (l : List S34) (p : Int) (t : Nat) : Bool := yes l p t && hit l t
def cM (l : List S34) (p : Int) (t : Nat) : Bool := !yes l p t && hit l t
def cF (l : List S34) (p : Int) (t : Nat) : Bool := yes l p t && !hit l t
def cN (l : List S34) (p : Int) (t : Nat) : Bool := !yes l p t && !hit l t
theorem four (l : List S34) (p : Int) : ∀ j, ct (cH l p) j + ct (cM l p) j = ct (hit l) j ∧ ct (cH l p) j + ct (cM l p) j + ct (cF l p) j + ct (cN l p) j = j := by
  intro j
  induction j with
  | zero => exact ⟨rfl, rfl⟩
  | succ j ih =>
    obtain ⟨h0, h1⟩ := ih
    simp only [ct, cH, cM, cF, cN]
    rcases Bool.eq_false_or_eq_true (yes l p j) with hy | hy <;> rcases Bool.eq_false_or_eq_true (hit l j) with hh | hh <;> simp [hy, hh] <;> omega

theorem table_ok (l : List S34) (p : Int) (hl : l.length ≤ 1000) (hi : Ev (fun k => impl_probsOk.f k l) true) : Ev (fun k => impl_Table.f k l p) (((ct (cH l p) l.length : Nat) : Int), ((ct (cM l p) l.length : Nat) : Int), ((ct (cF l p) l.length : Nat) : Int), ((ct (cN l p) l.length : Nat) : Int)) := by
  simp only [impl_Table.f]
  refine Ev.bind hi (evPos rfl ?_)
  have main : ∀ t j, j + t = l.length → Ev (fun k => impl_Table.l0 k p l (l.length : Int) (j : Int) ((ct (cH l p) j : Nat) : Int) ((ct (cM l p) j : Nat) : Int) ((ct (cF l p) j : Nat) : Int) ((ct (cN l p) j : Nat) : Int)) (((ct (cH l p) l.length : Nat) : Int), ((ct (cM l p) l.length : Nat) : Int), ((ct (cF l p) l.length : Nat) : Int), ((ct (cN l p) l.length : Nat) : Int)) := by
    intro t
    induction t with
    | zero =>
      intro j hj
      obtain rfl : j = l.length := by omega
      exact Ev.step (fun k => impl_Table.l0.eq_2 _ _ _ _ _ _ _ _ k) (evNeg (by omega) (Ev.now _))
    | succ t ih =>
      intro j hj
      have IH := ih (j + 1) (by omega)
      have u := up1 (j := j) (by omega)
      have a1 := ct_le (cH l p) j
      have a2 := ct_le (cM l p) j
      have a3 := ct_le (cF l p) j
      have a4 := ct_le (cN l p) j
      have u1 := up1 (j := ct (cH l p) j) (by omega)
      have u2 := up1 (j := ct (cM l p) j) (by omega)
      have u3 := up1 (j := ct (cF l p) j) (by omega)
      have u4 := up1 (j := ct (cN l p) j) (by omega)
      replace u := Aside0.mk u
      replace u1 := Aside0.mk u1
      replace u2 := Aside0.mk u2
      replace u3 := Aside0.mk u3
      replace u4 := Aside0.mk u4
      simp only [ct, cH, cM, cF, cN] at IH
      refine Ev.step (fun k => impl_Table.l0.eq_2 _ _ _ _ _ _ _ _ k) (evPos (by omega) (evPos (by omega) (evPos (by omega) ?_)))
      by_cases y : (rd_T34 l (j : Int)).f0 ≥ p
      · have yy : yes l p j = true := decide_eq_true y
        refine evPos y ?_
        by_cases d : (rd_T34 l (j : Int)).f1 = true
        · have dd : hit l j = true := d
          rw [d]
          refine Ev.step (fun k => impl_Table.j1.eq_2 _ _ _ _ _ _ _ _ _ _ _ k) (evPos rfl ?_)
          rw [u.out, u1.out]
          simpa [yy, dd] using IH
        · have dd : hit l j = false := by unfold hit; simpa using d
          rw [show (rd_T34 l (j : Int)).f1 = false from dd]
          refine Ev.step (fun k => impl_Table.j1.eq_2 _ _ _ _ _ _ _ _ _ _ _ k) (evNeg (by decide) (evNeg (by decide) (evPos y ?_)))
          rw [u.out, u3.out]
          simpa [yy, dd] using IH
      · have yy : yes l p j = false := decide_eq_false y
        refine evNeg y ?_
        by_cases d : (rd_T34 l (j : Int)).f1 = true
        · have dd : hit l j = true := d
          refine Ev.step (fun k => impl_Table.j1.eq_2 _ _ _ _ _ _ _ _ _ _ _ k) (evNeg (by decide) (evPos d ?_))
          rw [u.out, u2.out]
          simpa [yy, dd] using IH
        · have dd : hit l j = false := by unfold hit; simpa using d
          refine Ev.step (fun k => impl_Table.j1.eq_2 _ _ _ _ _ _ _ _ _ _ _ k) (evNeg (by decide) (evNeg d (evNeg y ?_)))
          rw [u.out, u4.out]
          simpa [yy, dd] using IH
  exact main l.length 0 (by omega)

/-! the draws -/
theorem told_ok {l : List Int} (h : Src l) {p : Int} (hp : At l p) : ∃ m q, Ev (fun k => spec_l1Rd_told.f k l p 30) (m, q) ∧ 1 ≤ m.length ∧ m.length ≤ 30 ∧ At l q := by
  simp only [spec_l1Rd_told.f]
  obtain ⟨n, q, e, n0, n1, hq⟩ := size_ok h hp 3 30 (by omega) (by omega) (by omega)
  simp only [e, Option.bind_some]
  have main : ∀ (t : Nat) (i : Int) (a : List S34) (p : Int), n - i = t → i = a.length → i ≤ n → At l p → ∃ m q, Ev (fun k => spec_l1Rd_told.l0 k n a i l p) (m, q) ∧ 1 ≤ m.length ∧ m.length ≤ 30 ∧ At l q := by
    intro t
    induction t with
    | zero =>
      intro i a p h1 h2 h3 hp
      refine ⟨a, p, Ev_succ fun k => ?_, by omega, by omega, hp⟩
      simp only [spec_l1Rd_told.l0]
      rw [if_neg (by omega)]
    | succ t ih =>
      intro i a p h1 h2 h3 hp
      obtain ⟨v, q, e, _, _, hq⟩ := below_ok h hp 101 (by omega)
      obtain ⟨v2, q2, e2, _, _, hq2⟩ := below_ok h hq 100 (by omega)
      obtain ⟨m, q', e', r⟩ := ih (i + 1) (a ++ [(⟨v, decide (v2 < v)⟩ : S34)]) q2 (by omega) (by simp; omega) (by omega) hq2
      refine ⟨m, q', Ev.step (fun k => ?_) e', r⟩
      simp only [spec_l1Rd_told.l0]
      rw [if_pos (by omega), e, Option.bind_some, e2, Option.bind_some, if_pos (by omega), w64 (x := i + 1) (by omega) (by omega)]
  exact main (n.toNat) 0 [] q (by omega) (by simp) (by omega) hq
theorem drawTold_ok {l : List Int} (h : Src l) {p : Int} (hp : At l p) : ∃ m q, Ev (fun k => spec_l18DrawTold.f k l p) (m, q) ∧ m.length ≤ 1001 ∧ At l q := by
  simp only [spec_l18DrawTold.f]
  obtain ⟨m, q, e, m0, m1, hq⟩ := told_ok h hp
  obtain ⟨v, q2, e2, v0, v1, hq2⟩ := below_ok h hq 20 (by omega)
  by_cases c0 : v = 0
  · obtain ⟨u, q3, e3, u0, u1, hq3⟩ := below_ok h hq2 4 (by omega)
    refine ⟨m.set 0 (⟨rd [-1, 101, 100, 0] u, (rd_T34 m 0).f1⟩ : S34), q3, Ev.bind e ?_, by simp; omega, hq3⟩
    simp only [e2, Option.bind_some, e3]
    exact evPos c0 (evPos u0 (evPos (by simpa using u1) (evPos (by omega) (Ev.now _))))
  by_cases c1 : v = 1
  · refine ⟨m.take 0, q2, Ev.bind e ?_, by simp, hq2⟩
    simp only [e2, Option.bind_some]
    exact evNeg c0 (evPos c1 (evPos (by omega) (Ev.now _)))
  by_cases c2 : v = 2
  · obtain ⟨u, q3, e3, u0, u1, hq3⟩ := below_ok h hq2 2 (by omega)
    have hw : wrap64 (1000 + u) = 1000 + u := w64 (by omega) (by omega)
    refine ⟨List.replicate (1000 + u).toNat z34, q3, Ev.bind e ?_, by simp; omega, hq3⟩
    simp only [e2, Option.bind_some, e3, hw]
    exact evNeg c0 (evNeg c1 (evPos c2 (evPos (by omega) (evPos (by omega) (Ev.now _)))))
  · refine ⟨m, q2, Ev.bind e ?_, by omega, hq2⟩
    simp only [e2, Option.bind_some]
    exact evNeg c0 (evNeg c1 (evNeg c2 (Ev.now _)))
theorem draw_ok {l : List Int} (h : Src l) : ∃ m x, Ev (fun k => spec_DrawTable.f k l) (m, x) ∧ m.length ≤ 1001 ∧ -1 ≤ x ∧ x ≤ 101 := by
  have e0 : spec_l1Open.f l = some (l, 0) := rfl
  simp -implicitDefEqProofs only [spec_DrawTable.f, e0, Option.bind_some]
  obtain ⟨m, q, e, m1, hq⟩ := drawTold_ok h (p := 0) (by unfold At; omega)
  obtain ⟨v, q2, e2, v0, v1, hq2⟩ := below_ok h hq 103 (by omega)
  refine ⟨m, v - 1, Ev.bind e ?_, m1, by omega, by omega⟩
  simp only [e2, Option.bind_some]
  rw [w64 (by omega) (by omega)]
  exact Ev.now _

theorem FnTables : laws_FnTables.Pure := by
  intro l _ _ hb
  refine Ev.rounds ?_
  simp only [laws_FnTables.f, laws_big.f, Option.bind_some]
  by_cases big : decide ((l.length : Int) > 1048576) = true
  · exact evPos big (Ev.now _)
  refine evNeg big ?_
  have h : Src l := ⟨by have := big; simp at this; omega, fun x hx => by have := hb x hx; simp [Lit.wf] at this; exact this⟩
  obtain ⟨m, p, e, m1, p0, p1⟩ := draw_ok h
  refine Ev.bind e ?_
  obtain ⟨b, hs, hi, hf⟩ := ok_both m (by omega)
  cases b with
  | false =>
    have R1 : Ev (fun k => impl_Reliable.f k m) [] := by simp only [impl_Reliable.f]; exact Ev.bind hi (evNeg (by decide) (Ev.now _))
    have R2 : Ev (fun k => spec_Reliable.f k m) [] := by simp only [spec_Reliable.f, Option.bind_some]; exact Ev.bind hs (evNeg (by decide) (Ev.now _))
    have R3 : Ev (fun k => impl_Table.f k m p) (0, 0, 0, 0) := by simp only [impl_Table.f]; exact Ev.bind hi (evNeg (by decide) (Ev.now _))
    have R4 : Ev (fun k => impl_Brier.f k m) (-1) := by simp only [impl_Brier.f]; exact Ev.bind hi (evNeg (by decide) (Ev.now _))
    exact Ev.bind R1 (Ev.bind R2 (evPos rfl (evPos rfl (Ev.bind R3 (evPos (by decide) (Ev.bind R4 (Ev.now _)))))))
  | true =>
    obtain ⟨hl, hF⟩ := hf rfl
    have I0 := impl_loop m hl hF m.length 0 (by omega)
    have e0 : ((List.range 11).map fun b => cb m b 0) = List.replicate 11 z36 := by rfl
    rw [e0] at I0
    have R1 : Ev (fun k => impl_Reliable.f k m) ((List.range 11).map fun b => cb m b m.length) := by simp only [impl_Reliable.f]; exact Ev.bind hi (evPos rfl (evPos (by decide) I0))
    have R2 : Ev (fun k => spec_Reliable.f k m) ((List.range 11).map fun b => cb m b m.length) := by simp only [spec_Reliable.f, Option.bind_some]; exact Ev.bind hs (evPos rfl (spec_loop m hl hF 11 0 (by omega)))
    refine Ev.bind R1 (Ev.bind R2 (evNeg (by simp) ?_))
    have len : ((List.range 11).map fun b => cb m b m.length).length = 11 := by simp
    have T1 := table_ok m p hl hi
    have hp' : wrap64 ((mn p 100) + 1) = (mn p 100) + 1 := by
      unfold mn
      split
      · exact w64 (by decide) (by decide)
      · exact w64 (by omega) (by omega)
    replace hp' := Aside0.mk hp'
    have T2 := table_ok m ((mn p 100) + 1) hl hi
    have ge : ∀ x : Int, x ≥ (mn p 100) + 1 → x ≥ p := by
      intro x hx
      unfold mn at hx
      split at hx <;> omega
    have mH := ct_mono (cH m ((mn p 100) + 1)) (cH m p) (fun t ht => by
      simp only [cH, yes, Bool.and_eq_true, decide_eq_true_eq] at ht ⊢
      exact ⟨ge _ ht.1, ht.2⟩) m.length
    have mF := ct_mono (cF m ((mn p 100) + 1)) (cF m p) (fun t ht => by
      simp only [cF, yes, Bool.and_eq_true, decide_eq_true_eq] at ht ⊢
      exact ⟨ge _ ht.1, ht.2⟩) m.length
    obtain ⟨f1, f2⟩ := four m p m.length
    have hb1 : ∀ t, t < m.length → bin m t < 11 := fun t ht => by have := (bin_eq m hF t ht).2; omega
    have S0 := ss_all (bin m) (fun _ => true) 11 m.length hb1 m.length (Nat.le_refl _)
    have S1 := ss_all (bin m) (hit m) 11 m.length hb1 m.length (Nat.le_refl _)
    have all : ∀ j, ct (fun _ => true) j = j := by
      intro j
      induction j with
      | zero => rfl
      | succ j ih => simp [ct, ih]
    rw [all] at S0
    have hc := ct_le (hit m) m.length
    have L1 : Ev (fun k => laws_FnTables.l1 k m ((List.range 11).map fun b => cb m b m.length) ((ct (hit m) m.length : Nat) : Int) 0 0 0 ((ct (cH m p) m.length : Nat) : Int) ((ct (cM m p) m.length : Nat) : Int) ((ct (cF m p) m.length : Nat) : Int) ((ct (cN m p) m.length : Nat) : Int) ((ct (cH m ((mn p 100) + 1)) m.length : Nat) : Int) ((ct (cM m ((mn p 100) + 1)) m.length : Nat) : Int) ((ct (cF m ((mn p 100) + 1)) m.length : Nat) : Int) ((ct (cN m ((mn p 100) + 1)) m.length : Nat) : Int)) true := by
      have main : ∀ t i, i + t = 11 → Ev (fun k => laws_FnTables.l1 k m ((List.range 11).map fun b => cb m b m.length) ((ct (hit m) m.length : Nat) : Int) ((ss (fun b => cw (bin m) (fun _ => true) b m.length) i : Nat) : Int) ((ss (fun b => cw (bin m) (hit m) b m.length) i : Nat) : Int) (i : Int) ((ct (cH m p) m.length : Nat) : Int) ((ct (cM m p) m.length : Nat) : Int) ((ct (cF m p) m.length : Nat) : Int) ((ct (cN m p) m.length : Nat) : Int) ((ct (cH m ((mn p 100) + 1)) m.length : Nat) : Int) ((ct (cM m ((mn p 100) + 1)) m.length : Nat) : Int) ((ct (cF m ((mn p 100) + 1)) m.length : Nat) : Int) ((ct (cN m ((mn p 100) + 1)) m.length : Nat) : Int)) true := by
        intro t
        induction t with
        | zero =>
          intro i hi'
          obtain rfl : i = 11 := by omega
          refine Ev.step (fun k => laws_FnTables.l1.eq_2 _ _ _ _ _ _ _ _ _ _ _ _ _ _ k) (evNeg (by rw [len]; omega) (evPos (by rw [len]; rfl) (evPos (by rw [S0]) (evPos (by rw [S1]) ?_))))
          rw [S0, w64 (x := ((ct (cH m p) m.length : Nat) : Int) + ((ct (cM m p) m.length : Nat) : Int)) (by omega) (by omega), w64 (x := ((ct (cH m p) m.length : Nat) : Int) + ((ct (cM m p) m.length : Nat) : Int) + ((ct (cF m p) m.length : Nat) : Int)) (by omega) (by omega), w64 (by omega) (by omega)]
          refine evPos (by omega) (evPos (by omega) (evPos (by omega) ?_))
          rw [decide_eq_true (by omega)]
          exact Ev.now _
        | succ t ih =>
          intro i hi'
          have IH := ih (i + 1) (by omega)
          obtain ⟨c0, c1⟩ := cb_eq m i m.length (by omega)
          have q0 := ss_le (fun b => cw (bin m) (fun _ => true) b m.length) 11 (i + 1) (by omega)
          have q1 := ss_le (fun b => cw (bin m) (hit m) b m.length) 11 (i + 1) (by omega)
          rw [S0] at q0
          rw [S1] at q1
          have z0 : ss (fun b => cw (bin m) (fun _ => true) b m.length) (i + 1) = ss (fun b => cw (bin m) (fun _ => true) b m.length) i + cw (bin m) (fun _ => true) i m.length := rfl
          have z1 : ss (fun b => cw (bin m) (hit m) b m.length) (i + 1) = ss (fun b => cw (bin m) (hit m) b m.length) i + cw (bin m) (hit m) i m.length := rfl
          refine Ev.step (fun k => laws_FnTables.l1.eq_2 _ _ _ _ _ _ _ _ _ _ _ _ _ _ k) (evPos (by rw [len]; omega) (evPos (by omega) ?_))
          rw [rd_map 11 i _ (by omega), c0, c1, up1 (by omega), w64 (x := ((ss (fun b => cw (bin m) (fun _ => true) b m.length) i : Nat) : Int) + ((cw (bin m) (fun _ => true) i m.length : Nat) : Int)) (by omega) (by omega), w64 (by omega) (by omega)]
          rw [z0, z1] at IH
          rw [Int.natCast_add, Int.natCast_add] at IH
          exact IH
      exact main 11 0 (by omega)
    have L0 : ∀ t j, j + t = m.length → Ev (fun k => laws_FnTables.l0 k m p ((List.range 11).map fun b => cb m b m.length) ((ct (hit m) j : Nat) : Int) (j : Int)) true := by
      intro t
      induction t with
      | zero =>
        intro j hj
        obtain rfl : j = m.length := by omega
        refine Ev.step (fun k => laws_FnTables.l0.eq_2 _ _ _ _ _ k) (evNeg (by omega) (Ev.bind T1 ?_))
        rw [hp'.out]
        exact Ev.bind T2 L1
      | succ t ih =>
        intro j hj
        have IH := ih (j + 1) (by omega)
        have a1 := ct_le (hit m) j
        have u := up1 (j := j) (by omega)
        replace u := Aside0.mk u
        have u1 := up1 (j := ct (hit m) j) (by clear IH ih u; omega)
        replace u1 := Aside0.mk u1
        refine Ev.step (fun k => laws_FnTables.l0.eq_2 _ _ _ _ _ k) (evPos (by omega) (evPos (by omega) ?_))
        rw [u.out, u1.out]
        rw [ct] at IH
        by_cases d : (rd_T34 m (j : Int)).f1 = true
        · rw [if_pos (show hit m j = true from d)] at IH
          exact evPos d IH
        · rw [if_neg (show ¬ hit m j = true from d)] at IH
          exact evNeg d IH
    exact L0 m.length 0 (by omega)
end Go.Proofs.Yteobnbichpadjaa.Pure
end

section
/- Plain Lean functions with the same answers as the Go functions of this seat, and a proof for each that the Go code comes to just these answers; no condition. Written by a program of this session (the kit's printer, turned). -/
namespace Go.Proofs.Yteobnbichpadjaa.fnTables
open Go.ChangeShapes Go.WideShapes Go.ChangeAt Go.RowKit
open Go.ChangeMaps (open_string shut_string)
set_option linter.unusedVariables false
theorem own : ownKnob Try.prog.godebug = none := by kernel_rfl
theorem laidOut : laidOutB Try.prog = true := by kernel_rfl
def IsRow (k : IntKind) (w : World) (a : Option Addr) (len cap : Nat) (zs : List Int) : Prop :=
  (a = none ∧ len = 0 ∧ cap = 0 ∧ zs = []) ∨
  ∃ x, a = some x ∧ len ≤ cap ∧ cap ≤ maxLen ∧ zs.length = cap ∧ (∀ i, i < zs.length → w.cell? (x.add i) = some (.int k (zs.getD i 0))) ∧ ∀ n ∈ zs, (Lit.int k n).wf = true
set_option maxRecDepth 100000 in
theorem lifted (os : Os) (started : os.Started) (H : Type) (enc : TypeId × Value → H) :
    ReturnsInHanded {} Try.checked os 3 .any (Rows.fnTablesSpec.pre6 enc Try.prog Try.f3 Rows.fnTablesRow.domain false) (Rows.fnTablesSpec.post enc Try.prog Try.f3 false true false false) := by
  refine returnsInHanded_of_change_sized (C := Try.checked) own started (by kernel_rfl) Try.func3
    (ChangeSpec.witness6 (enc := enc) (C := Try.checked) false ⟨#[], #[.slice none 0 0], []⟩ 8 (by kernel_rfl) (by kernel_rfl) (by kernel_rfl) (by kernel_rfl)) ?_
  intro W base args ds gs before hval0 hW hcnd hsz0 _
  have hsz : (DataW.weightsEach Try.prog (Try.f3.params.toList ++ Rows.fnTablesSpec.plain.varTypes Try.prog) (ds ++ gs)).all (· ≤ reachBytes) = true := hsz0
  have hval : ∀ (j : Nat) t v, Try.f3.params[j]? = some t → args[j]? = some v → Value.okWide Try.prog W .any base t v := hval0
  have hW' := hW
  obtain ⟨p, q, hA0, hV, rfl, hfz, hnd⟩ := hW
  have hA : DataW.TrodAll enc Try.prog W 0 (fun _ => true) true Try.f3.params.toList args.toList ds p := hA0
  rw [Try.params3] at hA hval hsz
  obtain ⟨v0, vs0, d0, ds0, p0, q0, hargs, rfl, rfl, h0, r0⟩ := trodAll_cons hA
  obtain ⟨rfl, rfl, rfl⟩ := trodAll_nil r0
  obtain rfl : args = #[v0] := by cases args; simp_all
  obtain ⟨rfl, rfl⟩ := trodVars_none hV
  obtain ⟨a0, len0, cap0, rfl⟩ := okWide_slice Try.underlying22 (hval 0 22 v0 rfl rfl)
  have k0 := h0
  have lt0 : ∀ x ∈ p0, x.block < W.heap.size := by obtain ⟨m, hm⟩ := k0; exact DataW.trod_lt m _ _ _ hm
  obtain ⟨z0, w0⟩ : ∃ zs, IsRow .u8 W a0 len0 cap0 zs := by
    obtain ⟨fuel, hf⟩ := h0
    rcases open_ints Try.underlying22 Try.underlying5 (by kernel_rfl) hf with ⟨hcs, _⟩ | ⟨x, l, c, zs, hcs, _, hl, hm, hz, _, hcell, hwz⟩
    · simp [Value.cells] at hcs
      obtain ⟨rfl, rfl, rfl⟩ := hcs
      exact ⟨[], .inl ⟨rfl, rfl, rfl, rfl⟩⟩
    · simp [Value.cells] at hcs
      obtain ⟨rfl, rfl, rfl⟩ := hcs
      exact ⟨zs, .inr ⟨_, rfl, hl, hm, by simpa using hz, hcell, hwz⟩⟩
  have y0 : len0 * 1 ≤ 140737488351232 := Go.Proofs.YteobnbichpadjaaW.PrintWords.sized_ints hsz (j := 0) (t := 22) rfl rfl Try.underlying22 Try.underlying5 (by kernel_rfl) (by kernel_rfl) h0
  clear hA0 hval0 hsz0 hsz
  refine (Q.laws_FnTables.walk Pure.FnTables a0 len0 cap0 z0 W w0 y0).mono fun e W' ⟨he, bel⟩ => ?_
  subst he
  exact ⟨_, rfl, _, _, _, [], _, [], hW', trodAll_mk1 (shut_bool Try.underlying4 _), (trodAll_cons_mk (Below.trod laidOut (by kernel_rfl) (of_decide_eq_true (by kernel_rfl)) k0 bel lt0) trodAll_mk0), rfl, bel.frame _, fun h => by cases h⟩
theorem over : Rows.fnTablesRow.holds Try.pinned (OpenSpec.ofChange Rows.fnTablesSpec) :=
  OpenClaim.holds_of_wide 3 Try.f3 rfl rfl rfl rfl rfl rfl rfl ⟨rfl, rfl, rfl, rfl, rfl⟩ rfl rfl rfl rfl rfl (by kernel_rfl) Try.func3 (by kernel_rfl)
    (of_decide_eq_true (by kernel_rfl)) (by unfold Func.isWrapper; first | (rw [if_pos (by decide +kernel)]; kernel_rfl) | (rw [if_neg (by decide +kernel)]; exact ⟨rfl, rfl⟩))
    (fun os started H enc _ => lifted os started H enc)
theorem proved : Rows.FnTablesSaid := over
#print axioms proved
end Go.Proofs.Yteobnbichpadjaa.fnTables
namespace Go.Proofs.Yteobnbichpadjaa
/-- The row, under a short name, for the claim. -/
theorem fnTables_holds : Rows.FnTablesSaid := fnTables.proved
end Go.Proofs.Yteobnbichpadjaa
end
