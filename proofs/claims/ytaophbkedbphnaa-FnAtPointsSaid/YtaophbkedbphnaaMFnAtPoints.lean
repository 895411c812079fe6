/- The plain statement of the law FnAtPoints: at a point of a drawn grid the value told is that point's own; no condition. -/
import Derived.Test.YtaophbkedbphnaaWWords
import Derived.Test.YtaophbkedbphnaaWMore
import Derived.Test.YtaophbkedbphnaaFlt
import Derived.Test.YtaophbkedbphnaaQx26
import Derived.Test.YtaophbkedbphnaaQx4
import Derived.Test.YtaophbkedbphnaaQx16
import Derived.Test.YtaophbkedbphnaaQx17
import Derived.Test.YtaophbkedbphnaaQx19
import Derived.Test.YtaophbkedbphnaaQx21
import Derived.Test.YtaophbkedbphnaaQx22
import Derived.Test.YtaophbkedbphnaaQx10
import Derived.Test.YtaophbkedbphnaaQx11
import Derived.Test.YtaophbkedbphnaaQx12
import Derived.Test.YtaophbkedbphnaaQx13
import Derived.Test.YtaophbkedbphnaaQx14
import Derived.Test.YtaophbkedbphnaaQx15
import Derived.Test.YtaophbkedbphnaaQx18
import Derived.Test.YtaophbkedbphnaaQx20
import Derived.Test.YtaophbkedbphnaaQx23
import Derived.Test.YtaophbkedbphnaaQx24
import Derived.Test.YtaophbkedbphnaaQx25
import Derived.Test.YtaophbkedbphnaaQx27
import Derived.Test.YtaophbkedbphnaaQx28
import Derived.Test.YtaophbkedbphnaaQx5
import Derived.Test.YtaophbkedbphnaaQx6
import Derived.Test.YtaophbkedbphnaaQx7
import Derived.Test.YtaophbkedbphnaaQx8
import Derived.Deep.Slices
import Derived.ChangeArms
import Derived.WideShapes
import Derived.Test.YtaophbkedbphnaaRows
import Derived.WalkKit
import Derived.ProofKit
import Derived.OpenShut
import Derived.ShutString
import Derived.ChangeOld
import Derived.Below
import Derived.SizedLaws
import Derived.Test.YtaophbkedbphnaaWSized

section
/- Loops told by rounds: general lemmas for the plain statements of this seat: a loop with an invariant and a measure ends; copying, comparing, marking of lists. No condition. -/
set_option linter.unusedVariables false
set_option linter.unusedSimpArgs false
namespace Go.Proofs.Ytaophbkedbphnaa.Gen
open Go.RowKit Go.Proofs.YtaophbkedbphnaaW.PrintWords Go.Proofs.YtaophbkedbphnaaW.PrintMore

theorem loop {S R : Type} (g : Nat → S → Option R) (μ : S → Nat) (Inv : S → Prop) (Q : R → Prop)
    (step : ∀ s, Inv s → (∃ r, Q r ∧ Ev (fun k => g k s) r) ∨ ∃ s', Inv s' ∧ μ s' < μ s ∧ ∃ K, ∀ k, K ≤ k → g (k + 1) s = g k s') :
    ∀ s, Inv s → ∃ r, Q r ∧ Ev (fun k => g k s) r := by
  intro s
  induction hm : μ s using Nat.strongRecOn generalizing s with
  | _ m ih =>
    intro hs
    rcases step s hs with h | ⟨s', hs', hlt, K, hK⟩
    · exact h
    · obtain ⟨r, hq, K', hr⟩ := ih (μ s') (hm ▸ hlt) s' rfl hs'
      refine ⟨r, hq, max K K' + 1, fun k hk => ?_⟩
      obtain ⟨j, rfl⟩ : ∃ j, k = j + 1 := ⟨k - 1, by omega⟩
      show g (j + 1) s = some r
      rw [hK j (by omega)]
      exact hr j (by omega)

/-- A loop whose answer is known. -/
theorem loopEq {S R : Type} (g : Nat → S → Option R) (μ : S → Nat) (Inv : S → Prop) (r : R)
    (step : ∀ s, Inv s → Ev (fun k => g k s) r ∨ ∃ s', Inv s' ∧ μ s' < μ s ∧ ∃ K, ∀ k, K ≤ k → g (k + 1) s = g k s') :
    ∀ s, Inv s → Ev (fun k => g k s) r := by
  intro s hs
  obtain ⟨q, rfl, h⟩ := loop g μ Inv (fun q => q = r) (fun s hs => by
    rcases step s hs with h | h
    · exact .inl ⟨r, rfl, h⟩
    · exact .inr h) s hs
  exact h

theorem Ev_succ {R : Type} {g : Nat → Option R} {r : R} (h : ∀ k, g (k + 1) = some r) : Ev g r :=
  Ev.step (f := fun _ => some r) h (Ev.now r)

theorem evPos {R : Type} {c : Prop} [Decidable c] {g g' : Nat → Option R} {r : R} (hc : c) (h : Ev g r) : Ev (fun k => if c then g k else g' k) r := by
  simpa only [if_pos hc] using h
theorem evNeg {R : Type} {c : Prop} [Decidable c] {g g' : Nat → Option R} {r : R} (hc : ¬ c) (h : Ev g' r) : Ev (fun k => if c then g k else g' k) r := by
  simpa only [if_neg hc] using h
theorem ev_at {R : Type} {g : Nat → Option R} {r : R} (h : Ev g r) : ∃ K, ∀ k, K ≤ k → g k = some r := h

theorem w64 {x : Int} (h0 : -9223372036854775808 ≤ x) (h1 : x ≤ 9223372036854775807) : wrap64 x = x := by unfold wrap64; omega

theorem wf64 {x : Int} (h : (Lit.int .i64 x).wf = true) : -9223372036854775808 ≤ x ∧ x ≤ 9223372036854775807 := by
  simp [Lit.wf] at h
  exact ⟨h.1, h.2⟩

/-! lists -/
theorem rd_nat (xs : List Int) (i : Nat) : rd xs (i : Int) = xs.getD i 0 := by simp [rd]
theorem toNat_nat (i : Nat) : ((i : Int)).toNat = i := Int.toNat_natCast i

theorem getD_append_left {α} (xs ys : List α) (d : α) {i : Nat} (h : i < xs.length) : (xs ++ ys).getD i d = xs.getD i d := by
  simp [List.getD_eq_getElem?_getD, List.getElem?_append_left h]

/-- Copying element by element into a list of the same length. -/
theorem take_set_succ {α} (xs ys : List α) (d : α) (i : Nat) (hl : ys.length = xs.length) (hi : i < xs.length) (h : ys.take i = xs.take i) :
    (ys.set i (xs.getD i d)).take (i + 1) = xs.take (i + 1) := by
  apply List.ext_getElem?
  intro j
  have hj := congrArg (fun l => l[j]?) h
  simp only [List.getElem?_take] at hj ⊢
  by_cases h1 : j < i
  · simp [h1] at hj
    have : j < i + 1 := by omega
    simp [this, List.getElem?_set, show i ≠ j by omega, hj]
  · by_cases h2 : j = i
    · subst h2
      simp [List.getElem?_set, hl, hi, List.getD_eq_getElem?_getD]
    · have : ¬ j < i + 1 := by omega
      simp [this]

theorem eq_of_take {α} (xs ys : List α) (hl : ys.length = xs.length) (h : ys.take xs.length = xs.take xs.length) : ys = xs := by
  rw [List.take_of_length_le (by omega), List.take_of_length_le (by omega)] at h
  exact h

/-- The numbers from a on. -/
def marks (a : Int) (n : Nat) : List Int := (List.range n).map fun (j : Nat) => a + (j : Int)
theorem marks_length (a : Int) (n : Nat) : (marks a n).length = n := by simp [marks]
theorem marks_get (a : Int) (n i : Nat) (h : i < n) : (marks a n).getD i 0 = a + (i : Int) := by
  simp [marks, List.getD_eq_getElem?_getD, h]

/-- A counting loop whose state is known at each round. -/
theorem count {S R : Type} (g : Nat → Int → S → Option R) (n : Nat) (st : Nat → S) (r : R)
    (step : ∀ j, j < n → ∃ K, ∀ k, K ≤ k → g (k + 1) (j : Int) (st j) = g k ((j + 1 : Nat) : Int) (st (j + 1)))
    (last : Ev (fun k => g k (n : Int) (st n)) r) : ∀ j, j ≤ n → Ev (fun k => g k (j : Int) (st j)) r := by
  intro j hj
  induction hd : n - j generalizing j with
  | zero =>
    obtain rfl : j = n := by omega
    exact last
  | succ d ih =>
    obtain ⟨K, hK⟩ := step j (by omega)
    obtain ⟨K', h'⟩ := ih (j + 1) (by omega) (by omega)
    refine ⟨max K K' + 1, fun k hk => ?_⟩
    obtain ⟨m, rfl⟩ : ∃ m, k = m + 1 := ⟨k - 1, by omega⟩
    show g (m + 1) (j : Int) (st j) = some r
    rw [hK m (by omega)]
    exact h' m (by omega)

/-- A loop that may end early: what it answers from each place on is known. -/
theorem scan {R : Type} (g : Nat → Int → Option R) (n : Nat) (res : Nat → R)
    (step : ∀ j, j < n → (res j = res (j + 1) ∧ ∃ K, ∀ k, K ≤ k → g (k + 1) (j : Int) = g k ((j + 1 : Nat) : Int)) ∨ Ev (fun k => g k (j : Int)) (res j))
    (last : Ev (fun k => g k (n : Int)) (res n)) : ∀ j, j ≤ n → Ev (fun k => g k (j : Int)) (res j) := by
  intro j hj
  induction hd : n - j generalizing j with
  | zero =>
    obtain rfl : j = n := by omega
    exact last
  | succ d ih =>
    rcases step j (by omega) with ⟨e, K, hK⟩ | h
    · obtain ⟨K', h'⟩ := ih (j + 1) (by omega) (by omega)
      refine ⟨max K K' + 1, fun k hk => ?_⟩
      obtain ⟨m, rfl⟩ : ∃ m, k = m + 1 := ⟨k - 1, by omega⟩
      show g (m + 1) (j : Int) = some (res j)
      rw [hK m (by omega), e]
      exact h' m (by omega)
    · exact h

/-- A scan where each place's answer follows from the next one's. -/
theorem scanE {R : Type} (g : Nat → Int → Option R) (n : Nat) (res : Nat → R)
    (step : ∀ j, j < n → Ev (fun k => g k ((j + 1 : Nat) : Int)) (res (j + 1)) → Ev (fun k => g k (j : Int)) (res j))
    (fin : Ev (fun k => g k (n : Int)) (res n)) : ∀ j, j ≤ n → Ev (fun k => g k (j : Int)) (res j) := by
  have main : ∀ t j, n - j = t → j ≤ n → Ev (fun k => g k (j : Int)) (res j) := by
    intro t
    induction t with
    | zero =>
      intro j h1 h2
      obtain rfl : j = n := by omega
      exact fin
    | succ t ih =>
      intro j h1 h2
      exact step j (by omega) (ih (j + 1) (by omega) (by omega))
  exact fun j hj => main _ j rfl hj

theorem all_drop {α} (l : List α) (p : α → Bool) (d : α) (j : Nat) (hj : j < l.length) : (l.drop j).all p = (p (l.getD j d) && (l.drop (j + 1)).all p) := by
  rw [List.drop_eq_getElem_cons hj, List.all_cons, List.getD_eq_getElem?_getD, List.getElem?_eq_getElem hj]
  rfl

/-- Are all of them from low to high? -/
def allIn (l : List Int) (lo hi : Int) : Bool := l.all fun x => decide (lo ≤ x) && decide (x ≤ hi)
theorem allIn_get {l : List Int} {lo hi : Int} (h : allIn l lo hi = true) (i : Nat) (hi' : i < l.length) : lo ≤ l.getD i 0 ∧ l.getD i 0 ≤ hi := by
  simp only [allIn, List.all_eq_true] at h
  have := h (l.getD i 0) (by rw [List.getD_eq_getElem?_getD, List.getElem?_eq_getElem hi']; exact List.getElem_mem hi')
  simpa using this

theorem up1 {j : Nat} (h : j < 4611686018427387904) : wrap64 ((j : Int) + 1) = ((j + 1 : Nat) : Int) := by unfold wrap64; omega

/-- The first j elements copied. -/
def mixed {α} (xs ys : List α) (j : Nat) : List α := xs.take j ++ ys.drop j
theorem mixed_length {α} (xs ys : List α) (j : Nat) (h : ys.length = xs.length) : (mixed xs ys j).length = xs.length := by simp [mixed]; omega
theorem mixed_zero {α} (xs ys : List α) : mixed xs ys 0 = ys := by simp [mixed]
theorem mixed_all {α} (xs ys : List α) (h : ys.length = xs.length) : mixed xs ys xs.length = xs := by simp [mixed, h]
theorem mixed_set {α} (xs ys : List α) (d : α) (j : Nat) (hl : ys.length = xs.length) (hj : j < xs.length) : (mixed xs ys j).set j (xs.getD j d) = mixed xs ys (j + 1) := by
  apply List.ext_getElem?
  intro i
  simp only [mixed, List.getElem?_set, List.getElem?_append, List.length_take, List.length_append, List.length_drop, List.getElem?_take, List.getElem?_drop, List.getD_eq_getElem?_getD]
  by_cases h1 : i < j
  · have : i < min j xs.length := by omega
    have h2 : i < min (j + 1) xs.length := by omega
    have h3 : i < j + 1 := by omega
    have h4 : ¬ j = i := by omega
    simp [this, h2, h1, h3, h4]
  · by_cases h2 : i = j
    · subst h2
      have h3 : i < min (i + 1) xs.length := by omega
      have h4 : i < min i xs.length + (ys.length - i) := by omega
      simp [h3, h4, List.getElem?_eq_getElem hj]
    · have h3 : ¬ i < min j xs.length := by omega
      have h4 : ¬ i < min (j + 1) xs.length := by omega
      have h5 : ¬ j = i := by omega
      simp only [h5, h3, h4, if_false]
      congr 1
      omega
theorem mixed_get_right {α} (xs ys : List α) (d : α) (j i : Nat) (hi : j ≤ i) (hj : j ≤ xs.length) : (mixed xs ys j).getD i d = ys.getD i d := by
  simp only [mixed, List.getD_eq_getElem?_getD]
  rw [List.getElem?_append_right (by simp; omega)]
  simp only [List.length_take, List.getElem?_drop]
  congr 2
  omega

/-- A list of n numbers told by a function. -/
def tab (n : Nat) (f : Nat → Int) : List Int := (List.range n).map f
theorem tab_length (n : Nat) (f : Nat → Int) : (tab n f).length = n := by simp [tab]
theorem tab_get (n : Nat) (f : Nat → Int) (i : Nat) (h : i < n) : (tab n f).getD i 0 = f i := by simp [tab, List.getD_eq_getElem?_getD, h]
theorem tab_succ (n : Nat) (f : Nat → Int) : tab (n + 1) f = tab n f ++ [f n] := by simp [tab, List.range_succ]

end Go.Proofs.Ytaophbkedbphnaa.Gen
end

section
/- Plain facts on floats told by their worth: what equals itself, what is no NaN. -/
set_option linter.unusedVariables false
set_option linter.unusedSimpArgs false
namespace Go.Proofs.Ytaophbkedbphnaa.Gen
open Go.RowKit Go.Proofs.YtaophbkedbphnaaW.PrintWords Go.Proofs.YtaophbkedbphnaaW.PrintFlt

theorem fne_eq (x y : Nat) : fne x y = !feq x y := rfl
theorem order_self (d : Ieee.Datum) (h : d.isNaN = false) : d.order d = some .eq := by
  cases d with
  | number s m e =>
    simp only [Ieee.Datum.order, Option.some.injEq]
    exact Std.ReflCmp.compare_self
  | infinity s => cases s <;> rfl
  | nan s f => simp [Ieee.Datum.isNaN] at h
theorem feq_self (x : Nat) : feq x x = !isn x := by
  unfold feq isn Ieee.Format.order
  cases h : (Ieee.double.read x).isNaN with
  | false => rw [order_self _ h]; rfl
  | true =>
    obtain ⟨s, f, e⟩ := read_nan (b := x) h
    rw [e]
    rfl
theorem fne_self (x : Nat) : fne x x = isn x := by rw [fne_eq, feq_self, Bool.not_not]
theorem isn_word (s : Bool) (r : Nat) (h : r ≤ Ieee.double.infRung) : isn (Ieee.double.word s r) = false := by
  have h1 : Ieee.double.signWeight = 2 ^ 63 := by decide
  have h2 : Ieee.double.binade = 2 ^ 52 := by decide
  have h3 : Ieee.double.infRung = 0x7ff0000000000000 := by decide +kernel
  rw [h3] at h
  have hm : Ieee.double.word s r % 2 ^ 63 = r := by
    unfold Ieee.Format.word
    rw [h1]
    cases s <;> simp <;> omega
  unfold isn Ieee.Format.read
  simp only [h1, h2, h3, hm]
  split
  · rfl
  · split
    · rfl
    · rw [if_pos (by omega)]
      rfl
theorem isn_nearest (s : Bool) (m : Nat) (p : Int) : isn (Ieee.double.nearest s m p) = false := by
  unfold Ieee.Format.nearest
  dsimp only
  split
  · exact isn_word _ _ (Nat.zero_le _)
  · exact isn_word _ _ (Nat.min_le_right ..)
theorem isn_foi (n : Int) : isn (foi n) = false := isn_nearest _ _ _
theorem isn_write (d : Ieee.Datum) (h : d.isNaN = false) : isn (Ieee.double.write d) = false := by
  cases d with
  | number s m e => exact isn_nearest _ _ _
  | infinity s => exact isn_word _ _ (Nat.le_refl _)
  | nan s f => simp [Ieee.Datum.isNaN] at h
/-- Is it a number? -/
def fin (x : Nat) : Bool := match Ieee.double.read x with
  | .number .. => true
  | _ => false
theorem sub_self (d : Ieee.Datum) : (d.sum d.opposite).map Ieee.double.write = match d with
    | .number .. => some 0
    | _ => none := by
  cases d with
  | number s m e =>
    have h0 : ∀ u, Ieee.signed s m u + Ieee.signed (!s) m u = 0 := by
      intro u
      unfold Ieee.signed
      cases s <;> simp <;> omega
    simp only [Ieee.Datum.opposite, Ieee.Datum.sum, h0, if_true]
    have : (s && !s) = false := by cases s <;> rfl
    simp only [this, Int.natAbs_zero, Option.map_some, Ieee.Format.write, Ieee.Format.nearest, if_true]
    rfl
  | infinity s => cases s <;> rfl
  | nan s f => rfl
theorem known1 (x : Nat) : feq (fsub x x) 0 = fin x := by
  unfold fsub Ieee.Format.sub fin
  rw [sub_self]
  cases h : Ieee.double.read x with
  | number s m e => exact (by decide +kernel : feq 0 0 = true)
  | infinity s => exact (by decide +kernel : feq qnan 0 = false)
  | nan s f => exact (by decide +kernel : feq qnan 0 = false)
theorem read_mod (x : Nat) : Ieee.double.read (x % 9223372036854775808) = match Ieee.double.read x with
    | .number _ m e => .number false m e
    | .infinity _ => .infinity false
    | .nan _ f => .nan false f := by
  have h1 : Ieee.double.signWeight = 9223372036854775808 := by decide +kernel
  have h2 : (x % 9223372036854775808) / 9223372036854775808 % 2 = 0 := by omega
  unfold Ieee.Format.read
  simp only [h1, Nat.mod_mod, h2]
  by_cases c1 : x % 9223372036854775808 < Ieee.double.binade
  · simp only [c1, if_true]; rfl
  · by_cases c2 : x % 9223372036854775808 < Ieee.double.infRung
    · simp only [c1, c2, if_true, if_false]; rfl
    · by_cases c3 : x % 9223372036854775808 = Ieee.double.infRung
      · simp only [c1, c2, c3, if_true, if_false]; rfl
      · simp only [c1, c2, c3, if_false]; rfl
theorem read_bound {x : Nat} {s : Bool} {m : Nat} {e : Int} (h : Ieee.double.read x = .number s m e) : m ≤ 9007199254740991 ∧ -1074 ≤ e ∧ e ≤ 971 := by
  have h1 : Ieee.double.signWeight = 9223372036854775808 := by decide +kernel
  have h2 : Ieee.double.binade = 4503599627370496 := by decide +kernel
  have h3 : Ieee.double.infRung = 9218868437227405312 := by decide +kernel
  have h4 : Ieee.double.leastPlace = -1074 := by decide +kernel
  unfold Ieee.Format.read at h
  simp only [h1, h2, h3, h4] at h
  split at h
  · injection h with _ hm he
    omega
  · split at h
    · injection h with _ hm he
      omega
    · split at h <;> cases h
theorem known2 (x : Nat) : (!isn x && !fgt (fabs x) 9218868437227405311) = fin x := by
  unfold fabs fin
  cases h : Ieee.double.read x with
  | number s m e =>
    have hn : isn x = false := by unfold isn; rw [h]; rfl
    have hm : Ieee.double.read 9218868437227405311 = .number false 9007199254740991 971 := by decide +kernel
    obtain ⟨b1, b2, b3⟩ := read_bound h
    have hg : fgt (x % 9223372036854775808) 9218868437227405311 = false := by
      unfold fgt Ieee.Format.order
      rw [read_mod, h, hm]
      simp only [Ieee.Datum.order]
      have hmin : min e 971 = e := by omega
      rw [hmin]
      have ha : Ieee.signed false m (e - e).toNat = (m : Int) := by simp [Ieee.signed]
      have hb : (m : Int) ≤ Ieee.signed false 9007199254740991 (971 - e).toNat := by
        simp only [Ieee.signed, Bool.false_eq_true, if_false, Nat.shiftLeft_eq]
        have h2 : 1 ≤ 2 ^ (971 - e).toNat := Nat.one_le_two_pow
        have := Nat.mul_le_mul (Nat.le_refl 9007199254740991) h2
        omega
      rw [ha]
      generalize Ieee.signed false 9007199254740991 (971 - e).toNat = q at hb
      have : compare (m : Int) q ≠ .gt := by
        intro hc
        have := Int.compare_eq_gt.mp hc
        omega
      cases hc : compare (m : Int) q with
      | gt => exact absurd hc this
      | lt => rfl
      | eq => rfl
    rw [hn, if_neg (by decide), hg]
    rfl
  | infinity s =>
    have hn : isn x = false := by unfold isn; rw [h]; rfl
    have hm : Ieee.double.read 9218868437227405311 = .number false 9007199254740991 971 := by decide +kernel
    have hg : fgt (x % 9223372036854775808) 9218868437227405311 = true := by
      unfold fgt Ieee.Format.order
      rw [read_mod, h, hm]
      rfl
    rw [hn, if_neg (by decide), hg]
    rfl
  | nan s f =>
    have hn : isn x = true := by unfold isn; rw [h]; rfl
    rw [hn]
    rfl
theorem fin_isn {x : Nat} (h : fin x = true) : isn x = false := by
  unfold fin at h
  unfold isn
  split at h
  · rename_i e; rw [e]; rfl
  · cases h
end Go.Proofs.Ytaophbkedbphnaa.Gen
end

section
/- Bounds: what the program's and the reference's tests of ranges answer. -/
set_option linter.unusedVariables false
set_option linter.unusedSimpArgs false
namespace Go.Proofs.Ytaophbkedbphnaa.Gen
open Go.RowKit Go.Proofs.Ytaophbkedbphnaa.Q Go.Proofs.Ytaophbkedbphnaa.Gen Go.Proofs.YtaophbkedbphnaaW.PrintWords Go.Proofs.YtaophbkedbphnaaW.PrintMore

def inS (a b c : Int) : Bool := decide (b ≤ a) && decide (a ≤ c)
theorem inS_iff (a b c : Int) : inS a b c = true ↔ b ≤ a ∧ a ≤ c := by simp [inS]
theorem l2In_s (a b c : Int) : spec_l2In.f a b c = some (inS a b c) := by
  unfold spec_l2In.f inS; by_cases h : a ≥ b <;> simp [h, show b ≤ a ↔ a ≥ b from Iff.rfl]
theorem in_s (a b c : Int) : impl_in.f a b c = some (inS a b c) := by
  unfold impl_in.f inS; by_cases h : a ≥ b <;> simp [h, show b ≤ a ↔ a ≥ b from Iff.rfl]
end Go.Proofs.Ytaophbkedbphnaa.Gen
end

section
/- Plain facts on floats: what a word stands for, and that a number is written as its own word. -/
set_option linter.unusedVariables false
set_option linter.unusedSimpArgs false
namespace Go.Proofs.Ytaophbkedbphnaa.Gen
open Go.RowKit Go.Proofs.YtaophbkedbphnaaW.PrintWords Go.Proofs.YtaophbkedbphnaaW.PrintFlt
open Ieee (Datum)

/-- What the word of a sign and a rung stands for. -/
def dat (s : Bool) (R : Nat) : Datum := if R < 4503599627370496 then .number s R (-1074) else if R < 9218868437227405312 then .number s (4503599627370496 + R % 4503599627370496) (-1074 + (R / 4503599627370496 - 1 : Nat)) else .infinity s
theorem swd : Ieee.double.signWeight = 9223372036854775808 := by decide +kernel
theorem bwd : Ieee.double.binade = 4503599627370496 := by decide +kernel
theorem iwd : Ieee.double.infRung = 9218868437227405312 := by decide +kernel
theorem lwd : Ieee.double.leastPlace = -1074 := by decide +kernel
theorem read_word (s : Bool) (R : Nat) (h : R ≤ 9218868437227405312) : Ieee.double.read (Ieee.double.word s R) = dat s R := by
  have hm : Ieee.double.word s R % 9223372036854775808 = R := by
    unfold Ieee.Format.word
    rw [swd]
    cases s <;> simp <;> omega
  have hs : (Ieee.double.word s R / 9223372036854775808 % 2 == 1) = s := by
    unfold Ieee.Format.word
    rw [swd]
    cases s
    · simp; omega
    · simp; omega
  unfold Ieee.Format.read dat
  simp only [swd, bwd, iwd, lwd, hm, hs]
  split
  · rfl
  · split
    · rfl
    · rw [if_pos (by omega)]
theorem dat_of_read {x : Nat} {s : Bool} {m : Nat} {e : Int} (h : Ieee.double.read x = .number s m e) : ∃ R, R < 9218868437227405312 ∧ ∀ t, dat t R = .number t m e := by
  unfold Ieee.Format.read at h
  simp only [swd, bwd, iwd, lwd] at h
  refine ⟨x % 9223372036854775808, ?_, ?_⟩
  · split at h
    · omega
    · split at h
      · assumption
      · split at h <;> cases h
  · intro t
    unfold dat
    split at h
    · injection h with _ hm he
      rw [if_pos (by assumption), hm, he]
    · split at h
      · injection h with _ hm he
        rw [if_neg (by assumption), if_pos (by assumption), hm, he]
      · split at h <;> cases h

def Sam : Datum → Datum → Prop
  | .number s m e, .number t n j => m = n ∧ e = j ∧ (m = 0 ∨ t = s)
  | .infinity s, .infinity t => t = s
  | _, _ => False
theorem sam_dat (s t : Bool) (R : Nat) (h : R = 0 ∨ t = s) : Sam (dat s R) (dat t R) := by
  unfold dat
  split
  · exact ⟨rfl, rfl, h⟩
  · have h' : t = s := h.elim (fun h => by omega) id
    split
    · exact ⟨rfl, rfl, .inr h'⟩
    · exact h'
theorem nearest_word (m : Nat) (p : Int) : ∃ R, R ≤ 9218868437227405312 ∧ (m = 0 → R = 0) ∧ ∀ s, Ieee.double.nearest s m p = Ieee.double.word s R := by
  unfold Ieee.Format.nearest
  by_cases h : m = 0
  · exact ⟨0, by decide, fun _ => rfl, fun s => by rw [if_pos h]⟩
  · refine ⟨min ((max (p + (m.log2 : Int) - (Ieee.double.fractionBits : Int)) Ieee.double.leastPlace - Ieee.double.leastPlace).toNat * Ieee.double.binade + Ieee.Toward.even.cut false (m <<< (p - max (p + (m.log2 : Int) - (Ieee.double.fractionBits : Int)) Ieee.double.leastPlace).toNat) (max (p + (m.log2 : Int) - (Ieee.double.fractionBits : Int)) Ieee.double.leastPlace - p).toNat) Ieee.double.infRung, ?_, fun h' => absurd h' h, fun s => ?_⟩
    · rw [iwd]; exact Nat.min_le_right ..
    · rw [if_neg h]
      rfl
theorem feq_sam {x y : Nat} (h : Sam (Ieee.double.read x) (Ieee.double.read y)) : feq x y = true := by
  unfold feq Ieee.Format.order
  revert h
  generalize Ieee.double.read x = a
  generalize Ieee.double.read y = b
  intro h
  cases a <;> cases b <;> simp only [Sam] at h
  · obtain ⟨rfl, rfl, h⟩ := h
    rename_i s m e t
    have hs : ∀ u, Ieee.signed s m u = Ieee.signed t m u := by
      intro u
      rcases h with h | h
      · subst h; unfold Ieee.signed; cases s <;> cases t <;> simp
      · rw [h]
    simp only [Datum.order, hs]
    simp
  · rename_i s t
    subst h
    cases t <;> rfl

/-- What a number's word stands for is written as that word, however it is spread. -/
theorem nearest_exact (R : Nat) (hR : R < 9218868437227405312) (t sg : Bool) (m : Nat) (e : Int) (h : dat t R = .number t m e) : Ieee.double.nearest sg (m <<< (e + 1074).toNat) (-1074) = Ieee.double.word sg R := by
  unfold dat at h
  split at h
  · injection h with _ hm he
    subst hm he
    unfold Ieee.Format.nearest
    by_cases h0 : R = 0
    · subst h0; rfl
    · rw [if_neg (by simpa using h0)]
      have hl : R.log2 ≤ 51 := by
        have := (Nat.log2_lt (n := R) (k := 52) h0).2 (by omega)
        omega
      simp only [show ((-1074 : Int) + 1074).toNat = 0 from rfl, Nat.shiftLeft_zero, lwd, bwd, iwd]
      have hf : Ieee.double.fractionBits = 52 := rfl
      rw [hf, show max ((-1074 : Int) + (R.log2 : Int) - ((52 : Nat) : Int)) (-1074) = -1074 by omega]
      have hc : Ieee.Toward.even.cut sg R 0 = R := by
        unfold Ieee.Toward.cut
        have hg : 1 <<< min 0 (R.log2 + 2) = 1 := by rw [Nat.zero_min]; rfl
        simp only [hg, Nat.div_one, Nat.mod_one]
        rfl
      rw [show ((-1074 : Int) - -1074).toNat = 0 from rfl, Nat.shiftLeft_zero, hc, Nat.zero_mul, Nat.zero_add, Nat.min_eq_left (Nat.le_of_lt hR)]
  · rename_i hb
    injection h with _ hm he
    obtain ⟨k, hk⟩ : ∃ k, R / 4503599627370496 - 1 = k := ⟨_, rfl⟩
    rw [hk] at he
    subst he
    have ek : ((-1074 : Int) + (k : Nat) + 1074).toNat = k := by omega
    rw [ek]
    have hm1 : 4503599627370496 ≤ m := by omega
    have hm2 : m < 9007199254740992 := by omega
    have hfin : min (k * 4503599627370496 + m) 9218868437227405312 = R := by omega
    have hp : 0 < 2 ^ k := Nat.two_pow_pos k
    have hn : m <<< k = m * 2 ^ k := Nat.shiftLeft_eq ..
    have hn0 : m <<< k ≠ 0 := by rw [hn]; exact Nat.ne_of_gt (Nat.mul_pos (by omega) hp)
    have hl : (m <<< k).log2 = 52 + k := by
      rw [Nat.log2_eq_iff hn0, hn]
      constructor
      · rw [Nat.pow_add]; exact Nat.mul_le_mul_right _ hm1
      · rw [show 52 + k + 1 = 53 + k by omega, Nat.pow_add]; exact Nat.mul_lt_mul_of_pos_right hm2 hp
    unfold Ieee.Format.nearest
    rw [if_neg hn0]
    have hf : Ieee.double.fractionBits = 52 := rfl
    simp only [hl, lwd, bwd, iwd, hf]
    rw [show max ((-1074 : Int) + ((52 + k : Nat) : Int) - ((52 : Nat) : Int)) (-1074) = -1074 + (k : Int) by omega, show ((-1074 : Int) - (-1074 + (k : Int))).toNat = 0 by omega, show ((-1074 : Int) + (k : Int) - -1074).toNat = k by omega, Nat.shiftLeft_zero]
    have hc : Ieee.Toward.even.cut sg (m <<< k) k = m := by
      unfold Ieee.Toward.cut
      have hg : 1 <<< min k ((m <<< k).log2 + 2) = 2 ^ k := by rw [hl, show min k (52 + k + 2) = k by omega, Nat.shiftLeft_eq, Nat.one_mul]
      simp only [hg]
      rw [hn, Nat.mul_div_cancel _ hp, Nat.mul_mod_left]
      have h1 : (decide (2 ^ k < 2 * 0)) = false := by simp
      have h2 : (2 ^ k == 2 * 0) = false := by simp
      rw [h1, h2]
      rfl
    rw [hc]
    rw [hfin]
end Go.Proofs.Ytaophbkedbphnaa.Gen
end

section
/- Plain facts on floats: a number and a nought make that number; differences of numbers up to 1e300 are numbers. -/
set_option exponentiation.threshold 3000
set_option linter.unusedVariables false
set_option linter.unusedSimpArgs false
namespace Go.Proofs.Ytaophbkedbphnaa.Gen
open Go.RowKit Go.Proofs.YtaophbkedbphnaaW.PrintWords Go.Proofs.YtaophbkedbphnaaW.PrintFlt
open Ieee (Datum)

/-- A nought of either sign. -/
def Zer (z : Nat) : Prop := ∃ t, Ieee.double.read z = .number t 0 (-1074)
theorem zer_word (t : Bool) : Zer (Ieee.double.word t 0) := ⟨t, by rw [read_word _ _ (by omega)]; rfl⟩
theorem zer_mul {x z : Nat} {s : Bool} {m : Nat} {e : Int} (hx : Ieee.double.read x = .number s m e) (hz : Zer z) : Zer (fmul x z) := by
  obtain ⟨t, hz⟩ := hz
  unfold fmul Ieee.Format.mul ov
  rw [hx, hz]
  simp only [Datum.product, Option.map_some, Option.getD_some, Ieee.Format.write, Nat.mul_zero]
  have : ∀ (s : Bool) (p : Int), Ieee.double.nearest s 0 p = Ieee.double.word s 0 := fun s p => by unfold Ieee.Format.nearest; rw [if_pos rfl]
  rw [this]
  exact zer_word _
theorem zer_div {z y : Nat} {s : Bool} {n : Nat} {e : Int} (hz : Zer z) (hy : Ieee.double.read y = .number s n e) (hn : n ≠ 0) : Zer (fdiv z y) := by
  obtain ⟨t, hz⟩ := hz
  unfold fdiv Ieee.Format.div ov
  rw [hz, hy]
  simp only [Datum.quotient]
  rw [if_neg hn]
  simp only [Option.map_some, Option.getD_some, Ieee.Format.write, Nat.zero_shiftLeft, Nat.zero_div, Nat.zero_mod]
  have : ∀ (s : Bool) (p : Int), Ieee.double.nearest s (2 * 0 + ((0 : Nat) != 0).toNat) p = Ieee.double.word s 0 := fun s p => by rw [show 2 * 0 + ((0 : Nat) != 0).toNat = 0 from rfl]; unfold Ieee.Format.nearest; rw [if_pos rfl]
  rw [this]
  exact zer_word _
theorem signed_abs (s : Bool) (m u : Nat) : (Ieee.signed s m u).natAbs = m <<< u := by
  have hc : ∀ (x : Nat), (-(x : Int)).natAbs = x ∧ ((x : Int)).natAbs = x := fun x => ⟨by omega, by omega⟩
  unfold Ieee.signed
  cases s
  · simp only [Bool.false_eq_true, if_false]; exact (hc _).2
  · simp only [if_true]; exact (hc _).1
theorem sam_refl {x : Nat} {s : Bool} {m : Nat} {e : Int} (hx : Ieee.double.read x = .number s m e) : Sam (Ieee.double.read x) (Ieee.double.read x) := by
  rw [hx]; exact ⟨rfl, rfl, .inr rfl⟩
theorem sam_trans {a b c : Datum} (h1 : Sam a b) (h2 : Sam b c) : Sam a c := by
  cases a <;> cases b <;> cases c <;> simp only [Sam] at *
  · obtain ⟨rfl, rfl, h1⟩ := h1
    obtain ⟨rfl, rfl, h2⟩ := h2
    refine ⟨rfl, rfl, ?_⟩
    rcases h1 with h | h
    · exact .inl h
    · rcases h2 with h' | h'
      · exact .inl h'
      · exact .inr (h'.trans h)
  · rw [h2, h1]
theorem sam_add {x z : Nat} {s : Bool} {m : Nat} {e : Int} (hx : Ieee.double.read x = .number s m e) (hz : Zer z) : Sam (Ieee.double.read x) (Ieee.double.read (fadd x z)) := by
  obtain ⟨t, hz⟩ := hz
  obtain ⟨R, hR, hd⟩ := dat_of_read hx
  have hb := read_bound hx
  unfold fadd Ieee.Format.add ov
  rw [hz, hx]
  simp only [Datum.sum, Option.map_some, Option.getD_some, Ieee.Format.write]
  rw [show min e (-1074 : Int) = -1074 by omega, show e - -1074 = e + 1074 by omega]
  have h0 : Ieee.signed t 0 ((-1074 : Int) - -1074).toNat = 0 := by cases t <;> rfl
  rw [h0, Int.add_zero, signed_abs, nearest_exact R hR s _ m e (hd s), read_word _ _ (by omega), ← hd s]
  refine sam_dat _ _ _ ?_
  by_cases hm : m = 0
  · left
    have := hd s
    unfold dat at this
    split at this
    · injection this with _ h1 _; omega
    · injection this with _ h1 _; omega
  · right
    have hn : 0 < m <<< (e + 1074).toNat := by
      rw [Nat.shiftLeft_eq]
      exact Nat.mul_pos (by omega) (Nat.two_pow_pos _)
    have hc : ∀ (x : Nat), 0 < x → (if (-(x : Int)) = 0 then (s && t) else decide ((-(x : Int)) < 0)) = true ∧ (if (x : Int) = 0 then (s && t) else decide ((x : Int) < 0)) = false := by
      intro x hx
      constructor
      · rw [if_neg (by omega)]
        exact decide_eq_true (by omega)
      · rw [if_neg (by omega)]
        exact decide_eq_false (by omega)
    revert hc
    unfold Ieee.signed
    cases s
    · simp only [Bool.false_eq_true, if_false]
      exact fun hc => (hc _ hn).2
    · simp only [if_true]
      exact fun hc => (hc _ hn).1

/-! no number up to 1e300 is lost in a difference -/
theorem shl_up (m : Nat) {i b : Int} (h0 : -1074 ≤ b) (h : b ≤ i) : (m <<< (i - b).toNat) * 2 ^ (b + 1074).toNat = m * 2 ^ (i + 1074).toNat := by
  rw [Nat.shiftLeft_eq, Nat.mul_assoc, ← Nat.pow_add, show (i - b).toNat + (b + 1074).toNat = (i + 1074).toNat by omega]
theorem rung_lt {a kept : Nat} (h1 : a ≤ 2019) (h2 : kept ≤ 9007199254740992) : min (a * 4503599627370496 + kept) 9218868437227405312 < 9218868437227405312 :=
  Nat.lt_of_le_of_lt (Nat.min_le_left _ _) (Nat.lt_of_le_of_lt (Nat.add_le_add (Nat.mul_le_mul_right _ h1) h2) (by decide))
theorem near_num (sg : Bool) (q : Nat) (b : Int) (hb : -1074 ≤ b) (h : q * 2 ^ (b + 1074).toNat < 2 ^ 2072) : ∃ R, R < 9218868437227405312 ∧ Ieee.double.nearest sg q b = Ieee.double.word sg R := by
  by_cases h0 : q = 0
  · subst h0
    exact ⟨0, by omega, by unfold Ieee.Format.nearest; rw [if_pos rfl]⟩
  have hl1 : 2 ^ q.log2 ≤ q := Nat.log2_self_le h0
  have hl2 : q < 2 ^ (q.log2 + 1) := Nat.lt_log2_self
  have hl3 : q.log2 + (b + 1074).toNat < 2072 := by
    have : 2 ^ (q.log2 + (b + 1074).toNat) < 2 ^ 2072 := by
      rw [Nat.pow_add]
      exact Nat.lt_of_le_of_lt (Nat.mul_le_mul_right _ hl1) h
    exact (Nat.pow_lt_pow_iff_right (by omega)).1 this
  have hf : Ieee.double.fractionBits = 52 := rfl
  unfold Ieee.Format.nearest
  rw [if_neg h0]
  simp only [lwd, bwd, iwd, hf]
  generalize hL : max (b + (q.log2 : Int) - ((52 : Nat) : Int)) (-1074) = last
  have k1 : Ieee.Toward.even.cut sg (q <<< (b - last).toNat) (last - b).toNat ≤ 9007199254740992 := by
    have low : ∀ g : Nat, q <<< (b - last).toNat < 2 ^ (g + 53) → (q <<< (b - last).toNat) / 2 ^ g < 9007199254740992 := fun g hg => by
      rw [Nat.div_lt_iff_lt_mul (Nat.two_pow_pos g)]
      rw [Nat.pow_add, Nat.mul_comm] at hg
      exact hg
    have hg : q <<< (b - last).toNat < 2 ^ (min (last - b).toNat ((q <<< (b - last).toNat).log2 + 2) + 53) := by
      by_cases c : b ≤ last
      · rw [show (b - last).toNat = 0 by omega, Nat.shiftLeft_zero]
        refine Nat.lt_of_lt_of_le hl2 (Nat.pow_le_pow_right (by omega) ?_)
        have : min (last - b).toNat (q.log2 + 2) + 52 ≥ q.log2 := by
          rcases Nat.le_total (last - b).toNat (q.log2 + 2) with g | g
          · rw [Nat.min_eq_left g]; omega
          · rw [Nat.min_eq_right g]; omega
        omega
      · rw [show (last - b).toNat = 0 by omega, Nat.zero_min, Nat.zero_add, Nat.shiftLeft_eq]
        refine Nat.lt_of_lt_of_le (Nat.mul_lt_mul_of_pos_right hl2 (Nat.two_pow_pos _)) ?_
        rw [← Nat.pow_add]
        exact Nat.pow_le_pow_right (by omega) (by omega)
    have := low _ hg
    unfold Ieee.Toward.cut
    simp only [Nat.shiftLeft_eq 1, Nat.one_mul]
    have bt : ∀ x : Bool, x.toNat ≤ 1 := fun x => by cases x <;> decide
    exact Nat.le_trans (Nat.add_le_add_left (bt _) _) (by omega)
  generalize Ieee.Toward.even.cut sg (q <<< (b - last).toNat) (last - b).toNat = kept at k1 ⊢
  refine ⟨min ((last - -1074).toNat * 4503599627370496 + kept) 9218868437227405312, ?_, rfl⟩
  clear h hl1 hl2
  exact rung_lt (by omega) k1
theorem dat_num {s : Bool} {R : Nat} (h : R < 9218868437227405312) : ∃ m e, dat s R = .number s m e := by
  unfold dat
  split
  · exact ⟨_, _, rfl⟩
  · exact ⟨_, _, rfl⟩
/-- A number below 2^997. -/
def Mid (d : Datum) : Prop := ∃ s m i, d = .number s m i ∧ -1074 ≤ i ∧ m * 2 ^ (i + 1074).toNat < 2 ^ 2071
theorem mid_sam {a b : Datum} (h : Sam a b) (ha : Mid a) : Mid b := by
  obtain ⟨s, m, i, rfl, h1, h2⟩ := ha
  cases b with
  | number t n j =>
    obtain ⟨rfl, rfl, _⟩ := h
    exact ⟨t, _, _, rfl, h1, h2⟩
  | infinity t => exact h.elim
  | nan t f => exact h.elim
theorem num_sub {x y : Nat} (hx : Mid (Ieee.double.read x)) (hy : Mid (Ieee.double.read y)) : ∃ s m e, Ieee.double.read (fsub x y) = .number s m e := by
  obtain ⟨s, m, i, ex, i1, bx⟩ := hx
  obtain ⟨t, n, j, ey, j1, by_⟩ := hy
  unfold fsub Ieee.Format.sub ov
  rw [ex, ey]
  simp only [Datum.opposite, Datum.sum, Option.map_some, Option.getD_some, Ieee.Format.write]
  have b1 : -1074 ≤ min i j := by omega
  have u1 := shl_up m b1 (show min i j ≤ i by omega)
  have u2 := shl_up n b1 (show min i j ≤ j by omega)
  have hn : (Ieee.signed s m (i - min i j).toNat + Ieee.signed (!t) n (j - min i j).toNat).natAbs * 2 ^ (min i j + 1074).toNat < 2 ^ 2072 := by
    have h1 := Int.natAbs_add_le (Ieee.signed s m (i - min i j).toNat) (Ieee.signed (!t) n (j - min i j).toNat)
    rw [signed_abs, signed_abs] at h1
    refine Nat.lt_of_le_of_lt (Nat.mul_le_mul_right _ h1) ?_
    rw [Nat.add_mul, u1, u2, show (2 : Nat) ^ 2072 = 2 ^ 2071 + 2 ^ 2071 by rw [Nat.pow_succ, Nat.mul_two]]
    exact Nat.add_lt_add bx by_
  obtain ⟨R, hR, e⟩ := near_num (if Ieee.signed s m (i - min i j).toNat + Ieee.signed (!t) n (j - min i j).toNat = 0 then s && !t else decide (Ieee.signed s m (i - min i j).toNat + Ieee.signed (!t) n (j - min i j).toNat < 0)) _ _ b1 hn
  rw [e, read_word _ _ (by omega)]
  obtain ⟨m', e', h⟩ := dat_num (s := (if Ieee.signed s m (i - min i j).toNat + Ieee.signed (!t) n (j - min i j).toNat = 0 then s && !t else decide (Ieee.signed s m (i - min i j).toNat + Ieee.signed (!t) n (j - min i j).toNat < 0))) hR
  exact ⟨_, m', e', h⟩
theorem cmp_gt {a b : Int} (h : b < a) : compare a b = .gt := by
  show compareOfLessAndEq a b = .gt
  unfold compareOfLessAndEq
  rw [if_neg (by omega), if_neg (by omega)]
theorem cmp_lt {a b : Int} (h : a < b) : compare a b = .lt := by
  show compareOfLessAndEq a b = .lt
  unfold compareOfLessAndEq
  rw [if_pos h]
theorem mid_of {x : Nat} (hf : fin x = true) (h1 : fgt x 9094988921128908188 = false) (h2 : flt x 18318360957983683996 = false) : Mid (Ieee.double.read x) := by
  obtain ⟨s, m, i, hx⟩ : ∃ s m i, Ieee.double.read x = .number s m i := by
    unfold fin at hf
    split at hf
    · exact ⟨_, _, _, by assumption⟩
    · cases hf
  have hb := read_bound hx
  refine ⟨s, m, i, hx, hb.2.1, ?_⟩
  have b1 : -1074 ≤ min i 944 := by omega
  have u1 := shl_up m b1 (show min i 944 ≤ i by omega)
  have u2 := shl_up 6724873095247260 b1 (show min i 944 ≤ 944 by omega)
  have e1 : Ieee.double.read 9094988921128908188 = .number false 6724873095247260 944 := by decide +kernel
  have e2 : Ieee.double.read 18318360957983683996 = .number true 6724873095247260 944 := by decide +kernel
  have le : m <<< (i - min i 944).toNat ≤ 6724873095247260 <<< (944 - min i 944).toNat := by
    unfold fgt Ieee.Format.order at h1
    unfold flt Ieee.Format.order at h2
    rw [hx, e1] at h1
    rw [hx, e2] at h2
    simp only [Datum.order] at h1 h2
    generalize hA : m <<< (i - min i 944).toNat = A
    generalize hB : (6724873095247260 : Nat) <<< (944 - min i 944).toNat = B
    have sB : Ieee.signed false 6724873095247260 (944 - min i 944).toNat = (B : Int) := by unfold Ieee.signed; rw [← hB]; rfl
    have sB' : Ieee.signed true 6724873095247260 (944 - min i 944).toNat = -(B : Int) := by unfold Ieee.signed; rw [← hB]; rfl
    rw [sB] at h1
    rw [sB'] at h2
    rcases Nat.lt_or_ge B A with g | g
    · exfalso
      cases s with
      | false =>
        have sA : Ieee.signed false m (i - min i 944).toNat = (A : Int) := by unfold Ieee.signed; rw [← hA]; rfl
        rw [sA, cmp_gt (show (B : Int) < (A : Int) by omega)] at h1
        cases h1
      | true =>
        have sA : Ieee.signed true m (i - min i 944).toNat = -(A : Int) := by unfold Ieee.signed; rw [← hA]; rfl
        rw [sA, cmp_lt (show -(A : Int) < -(B : Int) by omega)] at h2
        cases h2
    · exact g
  have := Nat.mul_le_mul_right (2 ^ (min i 944 + 1074).toNat) le
  rw [u1, u2] at this
  exact Nat.lt_of_le_of_lt this (by decide +kernel)
end Go.Proofs.Ytaophbkedbphnaa.Gen
end

section
/- The drawing of arguments out of bytes: each of these functions ends, and what it draws lies in its range; no condition. -/
set_option linter.unusedVariables false
set_option linter.unusedSimpArgs false
namespace Go.Proofs.Ytaophbkedbphnaa.Draw
open Go.RowKit Go.Proofs.Ytaophbkedbphnaa.Q Go.Proofs.Ytaophbkedbphnaa.Gen Go.Proofs.YtaophbkedbphnaaW.PrintWords Go.Proofs.YtaophbkedbphnaaW.PrintMore

/-- The bytes that are drawn from. -/
structure Src (l : List Int) : Prop where
  len : l.length ≤ 1048576
  byte : ∀ x ∈ l, 0 ≤ x ∧ x ≤ 255
/-- A place in them. -/
def At (l : List Int) (p : Int) : Prop := 0 ≤ p ∧ p ≤ l.length

theorem Src.rd_ {l : List Int} (h : Src l) (i : Int) : 0 ≤ rd l i ∧ rd l i ≤ 255 := by
  unfold rd
  rw [List.getD_eq_getElem?_getD]
  by_cases hi : i.toNat < l.length
  · rw [List.getElem?_eq_getElem hi]; exact h.byte _ (List.getElem_mem hi)
  · rw [List.getElem?_eq_none (by omega)]; decide

theorem wrap64_range (x : Int) : -9223372036854775808 ≤ wrap64 x ∧ wrap64 x ≤ 9223372036854775807 := by unfold wrap64; omega

theorem next_ok {l : List Int} (h : Src l) {p : Int} (hp : At l p) : ∃ v q, spec_l1Rd_next.f l p = some (v, q) ∧ 0 ≤ v ∧ v ≤ 255 ∧ At l q := by
  unfold At at hp
  have hl := h.len
  unfold spec_l1Rd_next.f
  by_cases c : p ≥ (l.length : Int)
  · rw [if_pos c]
    exact ⟨_, _, rfl, by omega, by omega, hp⟩
  · have hr := h.rd_ p
    rw [if_neg c, w64 (x := p + 1) (by omega) (by omega), w64 (x := p + 1 - 1) (by omega) (by omega), show p + 1 - 1 = p by omega, if_pos (by omega), if_pos (by omega), w64 (x := rd l p) (by omega) (by omega)]
    exact ⟨_, _, rfl, by omega, by omega, by unfold At; omega⟩
theorem below_ok {l : List Int} (h : Src l) {p : Int} (hp : At l p) (n : Int) (hn : 1 ≤ n) : ∃ v q, spec_l1Rd_below.f l p n = some (v, q) ∧ 0 ≤ v ∧ v < n ∧ At l q := by
  unfold spec_l1Rd_below.f
  by_cases c : n ≤ 1
  · rw [if_pos c]
    exact ⟨_, _, rfl, by omega, by omega, hp⟩
  · rw [if_neg c]
    obtain ⟨v, q, e, v0, v1, hq⟩ := next_ok h hp
    by_cases d : n ≤ 256
    · rw [if_pos d, e, Option.bind_some, if_neg (by omega)]
      exact ⟨_, _, rfl, Int.tmod_nonneg _ v0, Int.tmod_lt_of_pos _ (by omega), hq⟩
    · obtain ⟨v', q', e', v0', v1', hq'⟩ := next_ok h hq
      rw [if_neg d, e, Option.bind_some, e', Option.bind_some, if_neg (by omega), w64 (x := v * 256) (by omega) (by omega), w64 (by omega) (by omega)]
      exact ⟨_, _, rfl, Int.tmod_nonneg _ (by omega), Int.tmod_lt_of_pos _ (by omega), hq'⟩
theorem once_ok {l : List Int} (h : Src l) {p : Int} (hp : At l p) (n : Int) (hn : 1 ≤ n) : ∃ b q, spec_l1Rd_once.f l p n = some (b, q) ∧ At l q := by
  unfold spec_l1Rd_once.f
  obtain ⟨v, q, e, _, _, hq⟩ := below_ok h hp n hn
  rw [e, Option.bind_some]
  exact ⟨_, _, rfl, hq⟩
theorem word_ok {l : List Int} (h : Src l) {p : Int} (hp : At l p) : ∃ v q, Ev (fun k => spec_l1Rd_word.f k l p) (v, q) ∧ At l q := by
  simp only [spec_l1Rd_word.f]
  have main : ∀ (t : Nat) (i x p : Int), 8 - i = t → 0 ≤ i → At l p → ∃ v q, Ev (fun k => spec_l1Rd_word.l0 k x i l p) (v, q) ∧ At l q := by
    intro t
    induction t with
    | zero =>
      intro i x p h1 h2 hp
      refine ⟨x, p, Ev_succ fun k => ?_, hp⟩
      simp only [spec_l1Rd_word.l0]
      rw [if_neg (by omega)]
    | succ t ih =>
      intro i x p h1 h2 hp
      obtain ⟨v, q, e, _, _, hq⟩ := next_ok h hp
      obtain ⟨v', q', e', hq'⟩ := ih (i + 1) (Go.bits .or .u64 (IntKind.u64.wrap (x * 256)) (IntKind.u64.wrap v)) q (by omega) (by omega) hq
      refine ⟨v', q', Ev.step (fun k => ?_) e', hq'⟩
      simp only [spec_l1Rd_word.l0]
      rw [if_pos (by omega), e, Option.bind_some, w64 (by omega) (by omega)]
  exact main 8 0 0 p (by omega) (by omega) hp
theorem number_ok {l : List Int} (h : Src l) {p : Int} (hp : At l p) : ∃ v q, Ev (fun k => spec_l1Rd_number.f k l p) (v, q) ∧ (-9223372036854775808 ≤ v ∧ v ≤ 9223372036854775807) ∧ At l q := by
  simp only [spec_l1Rd_number.f]
  obtain ⟨v, q, e, v0, v1, hq⟩ := below_ok h hp 5 (by omega)
  simp only [e, Option.bind_some]
  by_cases c0 : v = 0
  · obtain ⟨u, q', e', u0, u1, hq'⟩ := below_ok h hq 300 (by omega)
    simp only [e', Option.bind_some]
    exact ⟨_, _, evPos c0 (Ev.now _), wrap64_range _, hq'⟩
  by_cases c1 : v = 1
  · obtain ⟨u, q', e', u0, u1, hq'⟩ := below_ok h hq 12 (by omega)
    simp only [e', Option.bind_some]
    refine ⟨_, _, evNeg c0 (evPos c1 (evPos u0 (evPos (by simpa using u1) (Ev.now _)))), ?_, hq'⟩
    have : u = 0 ∨ u = 1 ∨ u = 2 ∨ u = 3 ∨ u = 4 ∨ u = 5 ∨ u = 6 ∨ u = 7 ∨ u = 8 ∨ u = 9 ∨ u = 10 ∨ u = 11 := by omega
    rcases this with rfl | rfl | rfl | rfl | rfl | rfl | rfl | rfl | rfl | rfl | rfl | rfl <;> decide
  by_cases c2 : v = 2
  · obtain ⟨x, q', e', hq'⟩ := word_ok h hq
    obtain ⟨u, q2, e2, u0, u1, hq2⟩ := below_ok h hq' 60 (by omega)
    refine ⟨wrap64 (shr .u64 x (IntKind.u64.wrap (wrap64 (1 + u)))), q2, evNeg c0 (evNeg c1 (evPos c2 (Ev.bind e' ?_))), ?_, hq2⟩
    · simp only [e2, Option.bind_some]
      exact evPos (by unfold IntKind.wrap; simp [IntKind.signed, IntKind.bits]; omega) (Ev.now _)
    · exact wrap64_range _
  · obtain ⟨u, q', e', u0, u1, hq'⟩ := below_ok h hq 20 (by omega)
    simp only [e', Option.bind_some]
    exact ⟨_, _, evNeg c0 (evNeg c1 (evNeg c2 (Ev.now _))), by omega, hq'⟩

end Go.Proofs.Ytaophbkedbphnaa.Draw
end

section
/- The plain statement of the law FnAtPoints: at a point of a drawn grid the value told is that point's own; no condition. -/
set_option linter.unusedVariables false
set_option linter.unusedSectionVars false
set_option linter.unusedSimpArgs false
namespace Go.Proofs.Ytaophbkedbphnaa.Pure
open Go.RowKit Go.Proofs.Ytaophbkedbphnaa.Q Go.Proofs.Ytaophbkedbphnaa.Gen Go.Proofs.Ytaophbkedbphnaa.Draw Go.Proofs.YtaophbkedbphnaaW.PrintWords Go.Proofs.YtaophbkedbphnaaW.PrintMore Go.Proofs.YtaophbkedbphnaaW.PrintFlt
open Ieee (Datum)

theorem known_impl (x : Nat) : impl_Known.f x = some (fin x) := by
  unfold impl_Known.f impl_missing.f math_IsInf.f math_Abs.f
  rw [← known2 x, Option.bind_some, fne_self]
  by_cases h : isn x = true
  · simp [h]
  · simp [h]
theorem at_read (l : List Nat) (i j R C : Nat) (S W s : Int) (hR : R ≤ 64) (hC : C ≤ 64) (hi : i < R) (hj : j < C) (hn : l.length = R * C) (z : Int) :
    impl_At_1.f (i : Int) (j : Int) [l] [(⟨z, (C : Int), S, W, s⟩ : S43)] = some (rd_F l ((i * C + j : Nat) : Int)) := by
  have h := Nat.mul_le_mul_right C (show i + 1 ≤ R by omega)
  rw [Nat.add_mul] at h
  have hb : R * C ≤ 64 * 64 := Nat.mul_le_mul hR hC
  have e : (i : Int) * (C : Int) = ((i * C : Nat) : Int) := (Int.natCast_mul _ _).symm
  have r0 : rd_L1 [l] 0 = l := rfl
  have r1 : rd_T43 [(⟨z, (C : Int), S, W, s⟩ : S43)] 0 = ⟨z, (C : Int), S, W, s⟩ := rfl
  simp only [impl_At_1.f, r0, r1, e]
  generalize i * C = p at h ⊢
  rw [w64 (x := (p : Int)) (by omega) (by omega), w64 (by omega) (by omega)]
  have e2 : (p : Int) + (j : Int) = ((p + j : Nat) : Int) := by omega
  rw [e2, if_pos (by simp), if_pos (by simp), if_pos (by omega), if_pos (by omega)]

/-! the blend at a corner -/
def all2 (f : Nat → Bool) : Nat → Nat → Bool
  | 0, lo => f lo
  | d + 1, lo => all2 f d lo && all2 f d (lo + 2 ^ d)
theorem all2_get (f : Nat → Bool) : ∀ (d lo : Nat), all2 f d lo = true → ∀ n, lo ≤ n → n < lo + 2 ^ d → f n = true := by
  intro d
  induction d with
  | zero => intro lo h n h1 h2; obtain rfl : n = lo := by simp at h2; omega
            exact h
  | succ d ih =>
    intro lo h n h1 h2
    unfold all2 at h
    rw [Bool.and_eq_true] at h
    rw [Nat.pow_succ] at h2
    by_cases c : n < lo + 2 ^ d
    · exact ih lo h.1 n h1 c
    · exact ih (lo + 2 ^ d) h.2 n (by omega) (by omega)
def okStep (n : Nat) : Bool := n == 0 || (match Ieee.double.read (foi (n : Int)) with | .number _ m _ => decide (m ≠ 0) | _ => false)
theorem step_num : all2 okStep 12 0 = true := by decide +kernel
theorem zero_frac {s : Nat} (h1 : 1 ≤ s) (h2 : s ≤ 3000) : Zer (fdiv (foi 0) (foi (s : Int))) := by
  have h0 : Zer (foi 0) := ⟨false, by decide +kernel⟩
  have h := all2_get okStep 12 0 step_num s (by omega) (by have : (2 : Nat) ^ 12 = 4096 := by decide
                                                           omega)
  unfold okStep at h
  rw [Bool.or_eq_true] at h
  rcases h with h | h
  · exact absurd (by simpa using h) (show ¬ s = 0 by omega)
  · split at h
    · rename_i t m e hr
      exact zer_div h0 hr (by simpa using h)
    · cases h
theorem blend {v00 v01 v10 v11 fx fy : Nat} (h00 : Mid (Ieee.double.read v00)) (h01 : Mid (Ieee.double.read v01)) (h10 : Mid (Ieee.double.read v10)) (h11 : Mid (Ieee.double.read v11)) (hx : Zer fx) (hy : Zer fy) :
    feq v00 (fadd (fadd v00 (fmul (fsub v01 v00) fx)) (fmul (fsub (fadd v10 (fmul (fsub v11 v10) fx)) (fadd v00 (fmul (fsub v01 v00) fx))) fy)) = true := by
  have corner : ∀ {u v : Nat}, Mid (Ieee.double.read u) → Mid (Ieee.double.read v) → Sam (Ieee.double.read u) (Ieee.double.read (fadd u (fmul (fsub v u) fx))) := by
    intro u v hu hv
    obtain ⟨s, m, e, h⟩ := num_sub hv hu
    obtain ⟨t, n, j, g, _⟩ := hu
    exact sam_add g (zer_mul h hx)
  have a := corner h00 h01
  have b := corner h10 h11
  have ma := mid_sam a h00
  have mb := mid_sam b h10
  generalize fadd v00 (fmul (fsub v01 v00) fx) = A at a ma
  generalize fadd v10 (fmul (fsub v11 v10) fx) = B at b mb
  obtain ⟨s, m, e, h⟩ := num_sub mb ma
  obtain ⟨t, n, j, g, _⟩ := ma
  exact feq_sam (sam_trans a (sam_add g (zer_mul h hy)))

/-! the program at a point of the grid -/
theorem mn_int (a b : Int) : mn a b = if b < a then b else a := rfl
theorem cell_at (S : Int) (s R i : Nat) (hS : -18000 ≤ S) (hS2 : S ≤ 18000) (hs1 : 1 ≤ s) (hs : s ≤ 3000) (hR : R ≤ 64) (hi : i + 2 ≤ R) :
    wrap64 (S + wrap64 ((i : Int) * (s : Int))) = S + ((i * s : Nat) : Int) ∧ mn (wrap64 (Int.tdiv (wrap64 (S + ((i * s : Nat) : Int) - S)) (s : Int))) (wrap64 ((R : Int) - 2)) = (i : Int) ∧ wrap64 (wrap64 (S + ((i * s : Nat) : Int) - S) - wrap64 ((i : Int) * (s : Int))) = 0 := by
  have hm : i * s ≤ 64 * 3000 := Nat.mul_le_mul (by omega) hs
  have e : (i : Int) * (s : Int) = ((i * s : Nat) : Int) := (Int.natCast_mul _ _).symm
  have ed : Int.tdiv ((i * s : Nat) : Int) (s : Int) = (i : Int) := by
    show ((i * s / s : Nat) : Int) = (i : Int)
    rw [Nat.mul_div_cancel _ (by omega)]
  rw [e]
  generalize i * s = q at hm ed
  have e1 : wrap64 (S + (q : Int) - S) = (q : Int) := by rw [w64 (by omega) (by omega)]; omega
  rw [e1, ed, w64 (x := (q : Int)) (by omega) (by omega), w64 (x := S + (q : Int)) (by omega) (by omega), w64 (x := (i : Int)) (by omega) (by omega), w64 (x := (R : Int) - 2) (by omega) (by omega), Int.sub_self, mn_int, if_neg (by omega)]
  exact ⟨rfl, rfl, by decide +kernel⟩
theorem at_grid (S W : Int) (Rn Cn sn i j : Nat) (l : List Nat) (hS : -9000 ≤ S) (hS2 : S ≤ 9000) (hW : -18000 ≤ W) (hW2 : W ≤ 18000) (hs1 : 1 ≤ sn) (hs : sn ≤ 3000) (hR : Rn ≤ 64) (hC : Cn ≤ 64) (hi : i + 2 ≤ Rn) (hj : j + 2 ≤ Cn) (hn : l.length = Rn * Cn) (gok : impl_GridOk.f (Rn : Int) (Cn : Int) S W (sn : Int) = some true)
    (hc : ∀ a b : Nat, a < 2 → b < 2 → fgt (rd_F l (((i + a) * Cn + (j + b) : Nat) : Int)) 9094988921128908188 = false ∧ flt (rd_F l (((i + a) * Cn + (j + b) : Nat) : Int)) 18318360957983683996 = false) :
    ∃ y : Nat, Ev (fun k => impl_At.f k (Rn : Int) (Cn : Int) S W (sn : Int) l (wrap64 (S + wrap64 ((i : Int) * (sn : Int)))) (wrap64 (W + wrap64 ((j : Int) * (sn : Int))))) y ∧ (y = rd_F l ((i * Cn + j : Nat) : Int) ∨ feq (rd_F l ((i * Cn + j : Nat) : Int)) y = true) := by
  obtain ⟨la, li, ly⟩ := cell_at S sn Rn i (by omega) (by omega) hs1 hs hR hi
  obtain ⟨lo, lj, lx⟩ := cell_at W sn Cn j (by omega) (by omega) hs1 hs hC hj
  rw [la, lo]
  have hRC : Rn * Cn ≤ 64 * 64 := Nat.mul_le_mul (by omega) (by omega)
  have eRC : (Rn : Int) * (Cn : Int) = ((Rn * Cn : Nat) : Int) := (Int.natCast_mul _ _).symm
  have m1 : (Rn - 1) * sn ≤ 63 * 3000 := Nat.mul_le_mul (by omega) (by omega)
  have m2 : (Cn - 1) * sn ≤ 63 * 3000 := Nat.mul_le_mul (by omega) (by omega)
  have m3 : i * sn ≤ (Rn - 1) * sn := Nat.mul_le_mul_right _ (by omega)
  have m4 : j * sn ≤ (Cn - 1) * sn := Nat.mul_le_mul_right _ (by omega)
  have e1 : wrap64 (S + wrap64 (wrap64 ((Rn : Int) - 1) * (sn : Int))) = S + (((Rn - 1) * sn : Nat) : Int) := by
    rw [w64 (x := (Rn : Int) - 1) (by omega) (by omega), show (Rn : Int) - 1 = ((Rn - 1 : Nat) : Int) by omega, ← Int.natCast_mul]
    generalize (Rn - 1) * sn = q at m1
    rw [w64 (x := (q : Int)) (by omega) (by omega), w64 (by omega) (by omega)]
  have e2 : wrap64 (W + wrap64 (wrap64 ((Cn : Int) - 1) * (sn : Int))) = W + (((Cn - 1) * sn : Nat) : Int) := by
    rw [w64 (x := (Cn : Int) - 1) (by omega) (by omega), show (Cn : Int) - 1 = ((Cn - 1 : Nat) : Int) by omega, ← Int.natCast_mul]
    generalize (Cn - 1) * sn = q at m2
    rw [w64 (x := (q : Int)) (by omega) (by omega), w64 (by omega) (by omega)]
  have f0 : Ev (fun _ : Nat => impl_fits.f (Rn : Int) (Cn : Int) S W (sn : Int) l) true := by
    unfold impl_fits.f
    rw [gok, Option.bind_some, if_pos rfl, eRC, w64 (x := ((Rn * Cn : Nat) : Int)) (by omega) (by omega), show ((l.length : Int) == ((Rn * Cn : Nat) : Int)) = true by rw [beq_iff_eq]; omega]
    exact Ev.now _
  have f1 : Ev (fun _ : Nat => impl_in.f (S + ((i * sn : Nat) : Int)) S (wrap64 (S + wrap64 (wrap64 ((Rn : Int) - 1) * (sn : Int))))) true := by
    rw [e1, in_s, (inS_iff _ _ _).2 ⟨by omega, by omega⟩]; exact Ev.now _
  have f2 : Ev (fun _ : Nat => impl_in.f (W + ((j * sn : Nat) : Int)) W (wrap64 (W + wrap64 (wrap64 ((Cn : Int) - 1) * (sn : Int))))) true := by
    rw [e2, in_s, (inS_iff _ _ _).2 ⟨by omega, by omega⟩]; exact Ev.now _
  clear e1 e2
  have A : ∀ (a b : Nat), a < Rn → b < Cn → impl_At_1.f (a : Int) (b : Int) [l] [(⟨(Rn : Int), (Cn : Int), S, W, (sn : Int)⟩ : S43)] = some (rd_F l ((a * Cn + b : Nat) : Int)) := fun a b ha hb => at_read l a b Rn Cn S W sn (by omega) (by omega) ha hb hn _
  have A00 := A i j (by omega) (by omega)
  have A01 := A i (j + 1) (by omega) (by omega)
  have A10 := A (i + 1) j (by omega) (by omega)
  have A11 := A (i + 1) (j + 1) (by omega) (by omega)
  have C00 := hc 0 0 (by omega) (by omega)
  have C01 := hc 0 1 (by omega) (by omega)
  have C10 := hc 1 0 (by omega) (by omega)
  have C11 := hc 1 1 (by omega) (by omega)
  rw [Nat.add_zero, Nat.add_zero] at C00
  rw [Nat.add_zero] at C01 C10
  generalize rd_F l ((i * Cn + j : Nat) : Int) = v00 at A00 C00 ⊢
  generalize rd_F l ((i * Cn + (j + 1) : Nat) : Int) = v01 at A01 C01
  generalize rd_F l (((i + 1) * Cn + j : Nat) : Int) = v10 at A10 C10
  generalize rd_F l (((i + 1) * Cn + (j + 1) : Nat) : Int) = v11 at A11 C11
  have ui : Aside0 (wrap64 ((i : Int) + 1) = ((i + 1 : Nat) : Int)) := ⟨up1 (by omega)⟩
  have uj : Aside0 (wrap64 ((j : Int) + 1) = ((j + 1 : Nat) : Int)) := ⟨up1 (by omega)⟩
  have start : ∀ y, Ev (fun k => impl_At.j0 k (S + ((i * sn : Nat) : Int)) (W + ((j * sn : Nat) : Int)) (!true) (Rn : Int) (Cn : Int) S W (sn : Int) l) y → Ev (fun k => impl_At.f k (Rn : Int) (Cn : Int) S W (sn : Int) l (S + ((i * sn : Nat) : Int)) (W + ((j * sn : Nat) : Int))) y := fun y h => by
    simp only [impl_At.f]
    exact Ev.bind f0 (evPos rfl (Ev.bind f1 (evPos rfl (Ev.bind f2 h))))
  have IO : ∀ y, Ev (fun k => if fin v00 = true then (if fin v01 = true then (if fin v10 = true then impl_At.j1 k (i : Int) (j : Int) v00 v01 v10 v11 0 0 (fin v11) (Rn : Int) (Cn : Int) S W (sn : Int) l else impl_At.j1 k (i : Int) (j : Int) v00 v01 v10 v11 0 0 false (Rn : Int) (Cn : Int) S W (sn : Int) l) else impl_At.j1 k (i : Int) (j : Int) v00 v01 v10 v11 0 0 false (Rn : Int) (Cn : Int) S W (sn : Int) l) else impl_At.j1 k (i : Int) (j : Int) v00 v01 v10 v11 0 0 false (Rn : Int) (Cn : Int) S W (sn : Int) l) y → Ev (fun k => impl_At.j0 k (S + ((i * sn : Nat) : Int)) (W + ((j * sn : Nat) : Int)) (!true) (Rn : Int) (Cn : Int) S W (sn : Int) l) y := by
    intro y h
    refine Ev.step (fun k => impl_At.j0.eq_2 _ _ _ _ _ _ _ _ _ k) (evNeg (by decide) (evNeg (by omega) ?_))
    rw [li, lj, ui.out, uj.out, ly, lx]
    simp only [A00, A01, A10, A11, known_impl, Option.bind_some]
    exact h
  have off : Ev (fun k => impl_At.j1 k (i : Int) (j : Int) v00 v01 v10 v11 0 0 false (Rn : Int) (Cn : Int) S W (sn : Int) l) v00 := by
    refine Ev.step (fun k => impl_At.j1.eq_2 _ _ _ _ _ _ _ _ _ _ _ _ _ _ _ k) (evNeg (by decide) (evNeg ?_ (evNeg ?_ ?_)))
    · rw [show wrap64 (2 * 0) = 0 by decide +kernel]; omega
    · rw [show wrap64 (2 * 0) = 0 by decide +kernel]; omega
    · rw [A00]; exact Ev.now _
  by_cases k00 : fin v00 = true
  rotate_left
  · exact ⟨v00, start _ (IO _ (evNeg k00 off)), .inl rfl⟩
  by_cases k01 : fin v01 = true
  rotate_left
  · exact ⟨v00, start _ (IO _ (evPos k00 (evNeg k01 off))), .inl rfl⟩
  by_cases k10 : fin v10 = true
  rotate_left
  · exact ⟨v00, start _ (IO _ (evPos k00 (evPos k01 (evNeg k10 off)))), .inl rfl⟩
  by_cases k11 : fin v11 = true
  rotate_left
  · rw [Bool.not_eq_true] at k11
    exact ⟨v00, start _ (IO _ (evPos k00 (evPos k01 (evPos k10 (by rw [k11]; exact off))))), .inl rfl⟩
  have z := zero_frac hs1 hs
  refine ⟨_, start _ (IO _ (evPos k00 (evPos k01 (evPos k10 (by rw [k11]; exact Ev.step (fun k => impl_At.j1.eq_2 _ _ _ _ _ _ _ _ _ _ _ _ _ _ _ k) (evPos rfl (Ev.now _))))))), .inr ?_⟩
  exact blend (mid_of k00 C00.1 C00.2) (mid_of k01 C01.1 C01.2) (mid_of k10 C10.1 C10.2) (mid_of k11 C11.1 C11.2) z z

/-! what is drawn -/
theorem ev_of {α : Type} {x : Option α} {v : α} (h : x = some v) : Ev (fun _ => x) v := by rw [h]; exact Ev.now _
theorem float_ok {l : List Int} (h : Src l) {p : Int} (hp : At l p) : ∃ v q, Ev (fun k => spec_l1Rd_float.f k l p) (v, q) ∧ At l q := by
  simp only [spec_l1Rd_float.f]
  obtain ⟨v, q, e, v0, v1, hq⟩ := below_ok h hp 8 (by omega)
  by_cases c0 : v = 0
  · exact ⟨fdiv 0 0, q, Ev.bind (ev_of e) (evPos c0 (Ev.bind (ev_of (rfl : spec_l1None.f = some (fdiv 0 0))) (Ev.now _))), hq⟩
  by_cases c1 : v = 1
  · obtain ⟨u, q', e', u0, u1, hq'⟩ := below_ok h hq 16 (by omega)
    exact ⟨_, q', Ev.bind (ev_of e) (evNeg c0 (evPos c1 (Ev.bind (Ev.now _) (Ev.bind (ev_of e') (evPos u0 (evPos (show u < 16 from u1) (Ev.now _))))))), hq'⟩
  by_cases c2 : v = 2
  · obtain ⟨x, q', e', _, hq'⟩ := number_ok h hq
    obtain ⟨u, q2, e2, u0, u1, hq2⟩ := below_ok h hq' 1000 (by omega)
    exact ⟨_, q2, Ev.bind (ev_of e) (evNeg c0 (evNeg c1 (evPos c2 (Ev.bind e' (Ev.bind (ev_of e2) (Ev.now _)))))), hq2⟩
  by_cases c3 : v = 3
  · obtain ⟨u, q', e', u0, u1, hq'⟩ := below_ok h hq 1000 (by omega)
    exact ⟨_, q', Ev.bind (ev_of e) (evNeg c0 (evNeg c1 (evNeg c2 (evPos c3 (Ev.bind (ev_of e') (Ev.now _)))))), hq'⟩
  · obtain ⟨u, q', e', u0, u1, hq'⟩ := below_ok h hq 1000 (by omega)
    exact ⟨_, q', Ev.bind (ev_of e) (evNeg c0 (evNeg c1 (evNeg c2 (evNeg c3 (Ev.bind (ev_of e') (Ev.now _)))))), hq'⟩
theorem rd3 (a b c : Int) {w : Int} (w0 : 0 ≤ w) (w1 : w < 3) (ha : 0 ≤ a) (hb : 0 ≤ b) (hc : 0 ≤ c) : 0 ≤ rd [a, b, c] w := by
  have : w = 0 ∨ w = 1 ∨ w = 2 := by omega
  rcases this with rfl | rfl | rfl
  · exact ha
  · exact hb
  · exact hc
theorem rd4 (a b c d : Int) {w : Int} (w0 : 0 ≤ w) (w1 : w < 4) (ha : 0 ≤ a) (hb : 0 ≤ b) (hc : 0 ≤ c) (hd : 0 ≤ d) : 0 ≤ rd [a, b, c, d] w := by
  have : w = 0 ∨ w = 1 ∨ w = 2 ∨ w = 3 := by omega
  rcases this with rfl | rfl | rfl | rfl
  · exact ha
  · exact hb
  · exact hc
  · exact hd
theorem grid_l0 {l : List Int} (h : Src l) (R C S W s : Int) (n : Nat) (hn : wrap64 (R * C) = (n : Int)) (n1 : 1 ≤ n) (hb : n ≤ 1000) (hR : 0 ≤ R) (hR2 : R ≤ 1000) (hC : 0 ≤ C) (hs : 0 ≤ s) : ∀ (t : Nat) (x5 : List Nat) (x6 : Nat) (p : Int), x5.length + t = n → At l p → ∃ r1 r2 r3 r4 r5 v q, Ev (fun k => spec_l11DrawGrid.l0 k x5 x6 l p R C S W s) (r1, r2, r3, r4, r5, v, q) ∧ (0 ≤ r1 ∧ 0 ≤ r2 ∧ 0 ≤ r5) ∧ At l q := by
  intro t
  induction t with
  | zero =>
    intro x5 x6 p hl hp
    obtain ⟨v, q1, e1, v0, v1, h1⟩ := below_ok h hp 24 (by omega)
    have no : ¬ (x5.length : Int) < wrap64 (R * C) := by rw [hn]; omega
    by_cases c0 : v = 0
    · obtain ⟨w, q2, e2, w0, w1, h2⟩ := below_ok h h1 4 (by omega)
      exact ⟨rd [1, wrap64 (R + 1), 64, 65] w, C, S, W, s, x5, q2, Ev.step (fun k => spec_l11DrawGrid.l0.eq_2 _ _ _ _ _ _ _ _ _ k) (evNeg no (Ev.bind (ev_of e1) (evPos c0 (Ev.bind (Ev.now _) (Ev.bind (ev_of e2) (evPos w0 (evPos (show w < 4 from w1) (Ev.now _)))))))), ⟨rd4 _ _ _ _ w0 w1 (by omega) (by rw [w64 (by omega) (by omega)]; omega) (by omega) (by omega), hC, hs⟩, h2⟩
    by_cases c1 : v = 1
    · obtain ⟨w, q2, e2, w0, w1, h2⟩ := below_ok h h1 3 (by omega)
      exact ⟨R, C, rd [(-9000), 9000, (-9001)] w, W, s, x5, q2, Ev.step (fun k => spec_l11DrawGrid.l0.eq_2 _ _ _ _ _ _ _ _ _ k) (evNeg no (Ev.bind (ev_of e1) (evNeg c0 (evPos c1 (Ev.bind (Ev.now _) (Ev.bind (ev_of e2) (evPos w0 (evPos (show w < 3 from w1) (Ev.now _))))))))), ⟨hR, hC, hs⟩, h2⟩
    by_cases c2 : v = 2
    · obtain ⟨w, q2, e2, w0, w1, h2⟩ := below_ok h h1 3 (by omega)
      exact ⟨R, C, S, W, rd [0, 3000, 3001] w, x5, q2, Ev.step (fun k => spec_l11DrawGrid.l0.eq_2 _ _ _ _ _ _ _ _ _ k) (evNeg no (Ev.bind (ev_of e1) (evNeg c0 (evNeg c1 (evPos c2 (Ev.bind (Ev.now _) (Ev.bind (ev_of e2) (evPos w0 (evPos (show w < 3 from w1) (Ev.now _)))))))))), ⟨hR, hC, rd3 _ _ _ w0 w1 (by omega) (by omega) (by omega)⟩, h2⟩
    by_cases c3 : v = 3
    · obtain ⟨w, q2, e2, w0, w1, h2⟩ := below_ok h h1 3 (by omega)
      exact ⟨R, C, S, rd [(-18000), 18000, 18001] w, s, x5, q2, Ev.step (fun k => spec_l11DrawGrid.l0.eq_2 _ _ _ _ _ _ _ _ _ k) (evNeg no (Ev.bind (ev_of e1) (evNeg c0 (evNeg c1 (evNeg c2 (evPos c3 (Ev.bind (Ev.now _) (Ev.bind (ev_of e2) (evPos w0 (evPos (show w < 3 from w1) (Ev.now _))))))))))), ⟨hR, hC, hs⟩, h2⟩
    by_cases c4 : v = 4
    · exact ⟨R, C, S, W, s, _, q1, Ev.step (fun k => spec_l11DrawGrid.l0.eq_2 _ _ _ _ _ _ _ _ _ k) (evNeg no (Ev.bind (ev_of e1) (evNeg c0 (evNeg c1 (evNeg c2 (evNeg c3 (evPos c4 (evPos (by rw [w64 (by omega) (by omega)]; omega) (evPos (by rw [w64 (by omega) (by omega)]; omega) (Ev.now _)))))))))), ⟨hR, hC, hs⟩, h1⟩
    · exact ⟨R, C, S, W, s, x5, q1, Ev.step (fun k => spec_l11DrawGrid.l0.eq_2 _ _ _ _ _ _ _ _ _ k) (evNeg no (Ev.bind (ev_of e1) (evNeg c0 (evNeg c1 (evNeg c2 (evNeg c3 (evNeg c4 (Ev.now _)))))))), ⟨hR, hC, hs⟩, h1⟩
  | succ t ih =>
    intro x5 x6 p hl hp
    have yes : (x5.length : Int) < wrap64 (R * C) := by rw [hn]; omega
    obtain ⟨v, q1, e1, v0, v1, h1⟩ := below_ok h hp 40 (by omega)
    obtain ⟨b, q2, e2, h2⟩ := once_ok h h1 14 (by omega)
    cases b with
    | false =>
      obtain ⟨r1, r2, r3, r4, r5, v', q', h', g⟩ := ih (x5 ++ [fadd x6 (fdiv (foi (wrap64 (v - 20))) 4621819117588971520)]) (fadd x6 (fdiv (foi (wrap64 (v - 20))) 4621819117588971520)) q2 (by simp; omega) h2
      exact ⟨r1, r2, r3, r4, r5, v', q', Ev.step (fun k => spec_l11DrawGrid.l0.eq_2 _ _ _ _ _ _ _ _ _ k) (evPos yes (Ev.bind (ev_of e1) (evPos (show x5.length < 17592186044416 by omega) (Ev.bind (Ev.now _) (Ev.bind (ev_of e2) (evNeg (show ¬ (false = true) by decide) h')))))), g⟩
    | true =>
      obtain ⟨w, q3, e3, h3⟩ := float_ok h h2
      have hlen : (x5 ++ [fadd x6 (fdiv (foi (wrap64 (v - 20))) 4621819117588971520)]).length = x5.length + 1 := by simp
      obtain ⟨r1, r2, r3, r4, r5, v', q', h', g⟩ := ih ((x5 ++ [fadd x6 (fdiv (foi (wrap64 (v - 20))) 4621819117588971520)]).set ((wrap64 (((x5 ++ [fadd x6 (fdiv (foi (wrap64 (v - 20))) 4621819117588971520)]).length : Int) - 1)) : Int).toNat w) (fadd x6 (fdiv (foi (wrap64 (v - 20))) 4621819117588971520)) q3 (by rw [List.length_set, hlen]; omega) h3
      exact ⟨r1, r2, r3, r4, r5, v', q', Ev.step (fun k => spec_l11DrawGrid.l0.eq_2 _ _ _ _ _ _ _ _ _ k) (evPos yes (Ev.bind (ev_of e1) (evPos (show x5.length < 17592186044416 by omega) (Ev.bind (Ev.now _) (Ev.bind (ev_of e2) (evPos rfl (Ev.bind e3 (evPos (by rw [hlen, w64 (by omega) (by omega)]; omega) (evPos (by rw [hlen, w64 (by omega) (by omega)]; omega) h'))))))))), g⟩
theorem drawGrid_ok {l : List Int} (h : Src l) {p : Int} (hp : At l p) : ∃ r1 r2 r3 r4 r5 v q, Ev (fun k => spec_l11DrawGrid.f k l p) (r1, r2, r3, r4, r5, v, q) ∧ (0 ≤ r1 ∧ 0 ≤ r2 ∧ 0 ≤ r5) ∧ At l q := by
  simp only [spec_l11DrawGrid.f, spec_l1Rd_grid.f]
  obtain ⟨v1, q1, e1, a1, b1, h1⟩ := below_ok h hp 4 (by omega)
  obtain ⟨v2, q2, e2, a2, b2, h2⟩ := below_ok h h1 4 (by omega)
  obtain ⟨v3, q3, e3, a3, b3, h3⟩ := below_ok h h2 100 (by omega)
  obtain ⟨v4, q4, e4, a4, b4, h4⟩ := below_ok h h3 100 (by omega)
  obtain ⟨v5, q5, e5, a5, b5, h5⟩ := below_ok h h4 300 (by omega)
  obtain ⟨v6, q6, e6, a6, b6, h6⟩ := below_ok h h5 300 (by omega)
  have w1 : wrap64 (2 + v1) = 2 + v1 := w64 (by omega) (by omega)
  have w2 : wrap64 (2 + v2) = 2 + v2 := w64 (by omega) (by omega)
  have w5 : wrap64 (1 + v5) = 1 + v5 := w64 (by omega) (by omega)
  obtain ⟨a, ha⟩ := Int.eq_ofNat_of_zero_le (show 0 ≤ wrap64 (2 + v1) by omega)
  obtain ⟨b, hb⟩ := Int.eq_ofNat_of_zero_le (show 0 ≤ wrap64 (2 + v2) by omega)
  have m1 : a * b ≤ 5 * 5 := Nat.mul_le_mul (by omega) (by omega)
  have m2 : 1 * 1 ≤ a * b := Nat.mul_le_mul (by omega) (by omega)
  obtain ⟨r1, r2, r3, r4, r5, v, q, h', g⟩ := grid_l0 h (wrap64 (2 + v1)) (wrap64 (2 + v2)) (wrap64 (v3 * 50)) (wrap64 (wrap64 (v4 * 50) - 2500)) (wrap64 (1 + v5)) (a * b) (by rw [ha, hb, ← Int.natCast_mul]; exact w64 (by omega) (by omega)) (by omega) (by omega) (by omega) (by omega) (by omega) (by omega) (a * b) [] (fdiv (foi v6) 4621819117588971520) q6 (by simp) h6
  exact ⟨r1, r2, r3, r4, r5, v, q, Ev.bind (Ev.bind (ev_of e1) (Ev.bind (ev_of e2) (Ev.bind (ev_of e3) (Ev.bind (ev_of e4) (Ev.bind (ev_of e5) (Ev.now _)))))) (Ev.bind (ev_of e6) h'), g⟩
theorem span_pos {a b : Int} (ha : 0 ≤ a) (hb : 0 ≤ b) : 1 ≤ wrap64 (1 + wrap64 ((mn a 64) * (mn b 300))) := by
  have m1 : 0 ≤ mn a 64 ∧ mn a 64 ≤ 64 := by rw [mn_int]; split <;> omega
  have m2 : 0 ≤ mn b 300 ∧ mn b 300 ≤ 300 := by rw [mn_int]; split <;> omega
  obtain ⟨x, hx⟩ := Int.eq_ofNat_of_zero_le m1.1
  obtain ⟨y, hy⟩ := Int.eq_ofNat_of_zero_le m2.1
  have hm : x * y ≤ 64 * 300 := Nat.mul_le_mul (by omega) (by omega)
  rw [hx, hy, ← Int.natCast_mul]
  generalize x * y = q at hm
  rw [w64 (x := (q : Int)) (by omega) (by omega), w64 (by omega) (by omega)]
  omega
theorem at_j0 (v : List Nat) (a b R C S W s : Int) : Ev (fun k => spec_DrawAt.j0 k v a b R C S W s) (R, C, S, W, s, v, a, b) := Ev.step (fun k => spec_DrawAt.j0.eq_2 _ _ _ _ _ _ _ _ k) (Ev.now _)
theorem drawAt_ok {l : List Int} (h : Src l) : ∃ R C S W s v lat lon, Ev (fun k => spec_DrawAt.f k l) (R, C, S, W, s, v, lat, lon) := by
  simp only [spec_DrawAt.f]
  have e0 : Ev (fun _ : Nat => spec_l1Open.f l) (l, 0) := Ev.now _
  obtain ⟨r1, r2, r3, r4, r5, v, q, e, ⟨g1, g2, g3⟩, hq⟩ := drawGrid_ok h (p := 0) ⟨by omega, by omega⟩
  obtain ⟨v1, q1, e1, a1, b1, h1⟩ := below_ok h hq _ (span_pos g1 g3)
  obtain ⟨v2, q2, e2, a2, b2, h2⟩ := below_ok h h1 _ (span_pos g2 g3)
  obtain ⟨v3, q3, e3, a3, b3, h3⟩ := below_ok h h2 8 (by omega)
  by_cases c0 : v3 = 0
  · obtain ⟨w, q4, e4, _, _, h4⟩ := below_ok h h3 4 (by omega)
    exact ⟨_, _, _, _, _, _, _, _, Ev.bind e0 (Ev.bind e (Ev.bind (ev_of e1) (Ev.bind (ev_of e2) (Ev.bind (ev_of e3) (evPos c0 (Ev.bind (ev_of e4) (at_j0 _ _ _ _ _ _ _ _)))))))⟩
  by_cases c1 : v3 = 1
  · obtain ⟨w, q4, e4, _, _, h4⟩ := below_ok h h3 4 (by omega)
    exact ⟨_, _, _, _, _, _, _, _, Ev.bind e0 (Ev.bind e (Ev.bind (ev_of e1) (Ev.bind (ev_of e2) (Ev.bind (ev_of e3) (evNeg c0 (evPos c1 (Ev.bind (ev_of e4) (at_j0 _ _ _ _ _ _ _ _))))))))⟩
  by_cases c2 : v3 = 2
  · obtain ⟨w, q4, e4, _, _, h4⟩ := below_ok h h3 4 (by omega)
    obtain ⟨u, q5, e5, _, _, h5⟩ := below_ok h h4 4 (by omega)
    exact ⟨_, _, _, _, _, _, _, _, Ev.bind e0 (Ev.bind e (Ev.bind (ev_of e1) (Ev.bind (ev_of e2) (Ev.bind (ev_of e3) (evNeg c0 (evNeg c1 (evPos c2 (Ev.bind (ev_of e4) (Ev.bind (ev_of e5) (at_j0 _ _ _ _ _ _ _ _))))))))))⟩
  by_cases c3 : v3 = 3
  · obtain ⟨w, q4, e4, _, h4⟩ := number_ok h h3
    exact ⟨_, _, _, _, _, _, _, _, Ev.bind e0 (Ev.bind e (Ev.bind (ev_of e1) (Ev.bind (ev_of e2) (Ev.bind (ev_of e3) (evNeg c0 (evNeg c1 (evNeg c2 (evPos c3 (Ev.bind e4 (at_j0 _ _ _ _ _ _ _ _))))))))))⟩
  · exact ⟨_, _, _, _, _, _, _, _, Ev.bind e0 (Ev.bind e (Ev.bind (ev_of e1) (Ev.bind (ev_of e2) (Ev.bind (ev_of e3) (evNeg c0 (evNeg c1 (evNeg c2 (evNeg c3 (at_j0 _ _ _ _ _ _ _ _)))))))))⟩

/-! the law -/
theorem corner_at (Cn i j a b : Nat) (hb : i ≤ 64) (hj : j ≤ 64) (hC : Cn ≤ 64) (ha : a < 2) (hb2 : b < 2) : wrap64 (wrap64 (wrap64 (wrap64 ((i : Int) + wrap64 (a : Int)) * (Cn : Int)) + (j : Int)) + (b : Int)) = (((i + a) * Cn + (j + b) : Nat) : Int) := by
  have hm : (i + a) * Cn ≤ 65 * 64 := Nat.mul_le_mul (by omega) hC
  rw [w64 (x := (a : Int)) (by omega) (by omega), w64 (x := (i : Int) + (a : Int)) (by omega) (by omega), show (i : Int) + (a : Int) = ((i + a : Nat) : Int) by omega, ← Int.natCast_mul]
  generalize (i + a) * Cn = q at hm
  rw [w64 (x := (q : Int)) (by omega) (by omega), w64 (x := (q : Int) + (j : Int)) (by omega) (by omega), w64 (by omega) (by omega)]
  omega
theorem look (v : List Nat) (Rn Cn i j : Nat) (S W s : Int) (hR : Rn ≤ 64) (hC : Cn ≤ 64) (hi : i + 2 ≤ Rn) (hj : j + 2 ≤ Cn) (hn : v.length = Rn * Cn)
    (fin_ : (∀ a b : Nat, a < 2 → b < 2 → fgt (rd_F v (((i + a) * Cn + (j + b) : Nat) : Int)) 9094988921128908188 = false ∧ flt (rd_F v (((i + a) * Cn + (j + b) : Nat) : Int)) 18318360957983683996 = false) → Ev (fun k => laws_FnAtPoints.l0 k v (i : Int) (j : Int) ((4 : Nat) : Int) (Rn : Int) (Cn : Int) S W s) true) :
    ∀ (t q : Nat), q + t = 4 → (∀ a b : Nat, a < 2 → b < 2 → 2 * a + b < q → fgt (rd_F v (((i + a) * Cn + (j + b) : Nat) : Int)) 9094988921128908188 = false ∧ flt (rd_F v (((i + a) * Cn + (j + b) : Nat) : Int)) 18318360957983683996 = false) → Ev (fun k => laws_FnAtPoints.l0 k v (i : Int) (j : Int) (q : Int) (Rn : Int) (Cn : Int) S W s) true := by
  intro t
  induction t with
  | zero =>
    intro q hq hg
    obtain rfl : q = 4 := by omega
    exact fin_ (fun a b ha hb => hg a b ha hb (by omega))
  | succ t ih =>
    intro q hq hg
    have e1 : Int.tdiv (q : Int) 2 = ((q / 2 : Nat) : Int) := rfl
    have e2 : Int.tmod (q : Int) 2 = ((q % 2 : Nat) : Int) := rfl
    have hc := Aside0.mk (corner_at Cn i j (q / 2) (q % 2) (by omega) (by omega) hC (by omega) (by omega))
    have hm := Nat.mul_le_mul_right Cn (show i + q / 2 + 1 ≤ Rn by omega)
    rw [Nat.add_mul] at hm
    have hlt : (i + q / 2) * Cn + (j + q % 2) < v.length := by rw [hn]; omega
    have u : Aside0 (wrap64 ((q : Int) + 1) = ((q + 1 : Nat) : Int)) := ⟨up1 (by omega)⟩
    refine Ev.step (fun k => laws_FnAtPoints.l0.eq_2 _ _ _ _ _ _ _ _ _ k) (evPos (by omega) ?_)
    rw [e1, e2, hc.out, u.out]
    refine evPos (by omega) (evPos (by omega) ?_)
    by_cases c1 : fgt (rd_F v (((i + q / 2) * Cn + (j + q % 2) : Nat) : Int)) 9094988921128908188 = true
    · exact evPos c1 (Ev.now _)
    by_cases c2 : flt (rd_F v (((i + q / 2) * Cn + (j + q % 2) : Nat) : Int)) 18318360957983683996 = true
    · exact evNeg c1 (evPos c2 (Ev.now _))
    refine evNeg c1 (evNeg c2 (ih (q + 1) (by omega) (fun a b ha hb hab => ?_)))
    by_cases c3 : 2 * a + b < q
    · exact hg a b ha hb c3
    · obtain rfl : a = q / 2 := by omega
      obtain rfl : b = q % 2 := by omega
      exact ⟨(Bool.not_eq_true _).mp c1, (Bool.not_eq_true _).mp c2⟩

theorem grid_some (R C S W s : Int) : ∃ g : Bool, spec_GridOk.f R C S W s = some g ∧ impl_GridOk.f R C S W s = some g ∧ (g = true → 2 ≤ R ∧ R ≤ 64 ∧ 2 ≤ C ∧ C ≤ 64 ∧ 1 ≤ s ∧ s ≤ 3000 ∧ -9000 ≤ S ∧ S ≤ 9000 ∧ -18000 ≤ W ∧ W ≤ 18000) := by
  have hg : impl_GridOk.f R C S W s = spec_GridOk.f R C S W s := by
    simp only [impl_GridOk.f, spec_GridOk.f, l2In_s, in_s]
  rw [hg]
  refine (?_ : ∃ g : Bool, spec_GridOk.f R C S W s = some g ∧ (g = true → _)).imp fun g h => ⟨h.1, h.1, h.2⟩
  simp only [spec_GridOk.f, l2In_s, Option.bind_some]
  by_cases c1 : inS R 2 64 = true
  · rw [if_pos c1]
    by_cases c2 : inS C 2 64 = true
    · rw [if_pos c2]
      by_cases c3 : inS s 1 3000 = true
      · rw [if_pos c3]
        by_cases c4 : inS S (-9000) 9000 = true
        · rw [if_pos c4]
          split
          · refine ⟨_, rfl, fun h => ?_⟩
            rw [inS_iff] at c1 c2 c3 c4 h
            omega
          · exact ⟨_, rfl, fun h => by cases h⟩
        · rw [if_neg c4]; exact ⟨_, rfl, fun h => by cases h⟩
      · rw [if_neg c3]; exact ⟨_, rfl, fun h => by cases h⟩
    · rw [if_neg c2]; exact ⟨_, rfl, fun h => by cases h⟩
  · rw [if_neg c1]; exact ⟨_, rfl, fun h => by cases h⟩

theorem FnAtPoints : laws_FnAtPoints.Pure := by
  intro l m _ _ hb hm0 hm1 _
  refine Ev.rounds ?_
  simp only [laws_FnAtPoints.f]
  have skip : Ev (fun k => laws_FnAtPoints.j0 k l m true) true := Ev.step (fun k => laws_FnAtPoints.j0.eq_2 _ _ _ k) (evPos rfl (Ev.now _))
  have eb : ∀ l : List Int, Ev (fun _ : Nat => laws_big.f l) (decide ((l.length : Int) > 1048576)) := fun l => Ev.now _
  refine Ev.bind (eb l) ?_
  by_cases big : decide ((l.length : Int) > 1048576) = true
  · exact evPos big skip
  refine evNeg big (Ev.bind (eb m) ?_)
  by_cases bigm : decide ((m.length : Int) > 1048576) = true
  · rw [bigm]; exact skip
  rw [Bool.not_eq_true] at bigm
  rw [bigm]
  have hml : m.length ≤ 1048576 := by have := bigm; simp at this; omega
  have h : Src l := ⟨by have := big; simp at this; omega, fun x hx => by have := hb x hx; simp [Lit.wf] at this; exact this⟩
  obtain ⟨R, C, S, W, s, v, lat, lon, e⟩ := drawAt_ok h
  obtain ⟨g, gs, gi, hg⟩ := grid_some R C S W s
  have no : ∀ (v : List Nat) (R C S W s : Int), Ev (fun k => laws_FnAtPoints.j1 k m v true R C S W s) true := fun v R C S W s => Ev.step (fun k => laws_FnAtPoints.j1.eq_2 _ _ _ _ _ _ _ _ k) (evPos rfl (Ev.now _))
  refine Ev.step (fun k => laws_FnAtPoints.j0.eq_2 _ _ _ k) (evNeg (by decide) (Ev.bind e (Ev.bind (ev_of gs) ?_)))
  cases g with
  | false => exact evNeg (by decide) (no v R C S W s)
  | true =>
    obtain ⟨r1, r2, c1, c2, s1, s2, S1, S2, W1, W2⟩ := hg rfl
    obtain ⟨Rn, rfl⟩ := Int.eq_ofNat_of_zero_le (show 0 ≤ R by omega)
    obtain ⟨Cn, rfl⟩ := Int.eq_ofNat_of_zero_le (show 0 ≤ C by omega)
    obtain ⟨sn, rfl⟩ := Int.eq_ofNat_of_zero_le (show 0 ≤ s by omega)
    have hRC : Rn * Cn ≤ 64 * 64 := Nat.mul_le_mul (by omega) (by omega)
    have eRC : Aside0 (wrap64 ((Rn : Int) * (Cn : Int)) = ((Rn * Cn : Nat) : Int)) := ⟨by rw [← Int.natCast_mul]; exact w64 (by omega) (by omega)⟩
    refine evPos rfl ?_
    dsimp only
    rw [eRC.out]
    by_cases hn : v.length = Rn * Cn
    rotate_left
    · rw [show ((v.length : Int) != ((Rn * Cn : Nat) : Int)) = true by rw [bne_iff_ne]; omega]
      exact no v _ _ _ _ _
    rw [show ((v.length : Int) != ((Rn * Cn : Nat) : Int)) = false by rw [bne_eq_false_iff_eq]; omega]
    have eR : Aside0 (wrap64 ((Rn : Int) - 1) = ((Rn - 1 : Nat) : Int)) := ⟨by rw [w64 (by omega) (by omega)]; omega⟩
    have eC : Aside0 (wrap64 ((Cn : Int) - 1) = ((Cn - 1 : Nat) : Int)) := ⟨by rw [w64 (by omega) (by omega)]; omega⟩
    refine Ev.step (fun k => laws_FnAtPoints.j1.eq_2 _ _ _ _ _ _ _ _ k) (evNeg (by decide) ?_)
    rw [eR.out, eC.out]
    refine evNeg (by omega) (evNeg (by omega) ?_)
    have e7 : Aside0 (wrap64 ((m.length : Int) / 7) = ((m.length / 7 : Nat) : Int)) := ⟨by rw [w64 (by omega) (by omega)]; omega⟩
    rw [e7.out, show (m.length : Int) % ((Rn - 1 : Nat) : Int) = ((m.length % (Rn - 1) : Nat) : Int) from (Int.natCast_emod _ _).symm, show Int.tmod ((m.length / 7 : Nat) : Int) ((Cn - 1 : Nat) : Int) = ((m.length / 7 % (Cn - 1) : Nat) : Int) from rfl]
    have hi := Nat.mod_lt m.length (show 0 < Rn - 1 by omega)
    have hj := Nat.mod_lt (m.length / 7) (show 0 < Cn - 1 by omega)
    generalize m.length % (Rn - 1) = i at hi ⊢
    generalize m.length / 7 % (Cn - 1) = j at hj ⊢
    refine look v Rn Cn i j S W (sn : Int) (by omega) (by omega) (by omega) (by omega) hn (fun hc => ?_) 4 0 (by omega) (fun a b _ _ h => by omega)
    obtain ⟨y, hy, hxy⟩ := at_grid S W Rn Cn sn i j v (by omega) (by omega) (by omega) (by omega) (by omega) (by omega) (by omega) (by omega) (by omega) (by omega) hn gi hc
    have k00 : Aside0 (wrap64 (wrap64 ((i : Int) * (Cn : Int)) + (j : Int)) = ((i * Cn + j : Nat) : Int)) := ⟨by
      have hm : i * Cn ≤ 64 * 64 := Nat.mul_le_mul (by omega) (by omega)
      rw [← Int.natCast_mul]
      generalize i * Cn = p at hm ⊢
      rw [w64 (x := (p : Int)) (by omega) (by omega), w64 (by omega) (by omega)]; omega⟩
    have hm := Nat.mul_le_mul_right Cn (show i + 1 ≤ Rn by omega)
    rw [Nat.add_mul] at hm
    refine Ev.step (fun k => laws_FnAtPoints.l0.eq_2 _ _ _ _ _ _ _ _ _ k) (evNeg (by omega) ?_)
    rw [k00.out]
    refine evPos (by omega) (evPos (by omega) (Ev.bind hy ?_))
    generalize rd_F v ((i * Cn + j : Nat) : Int) = x at hxy ⊢
    by_cases c : feq x y = true
    · exact evPos c (Ev.now _)
    · have hxy : y = x := hxy.resolve_right c
      subst hxy
      have hi : isn y = true := by rw [feq_self] at c; simpa using c
      refine evNeg c (evPos (by rw [fne_self]; exact hi) ?_)
      rw [fne_self, hi]
      exact Ev.now _
end Go.Proofs.Ytaophbkedbphnaa.Pure
end

section
/- Arguments of any shape, opened: what a datum's reading says of its cells, by kinds; no condition. -/
set_option linter.unusedVariables false
set_option linter.unusedSimpArgs false
namespace Go.Proofs.Ytaophbkedbphnaa.Opens
open Go.RowKit Go.Proofs.YtaophbkedbphnaaW.PrintWords Go.Deep

section
variable {H : Type} {enc : TypeId × Value → H} {P : Program} {w : World} {base : Nat} {spare : Nat → Bool} {held : Bool}
/-- Whatever is read as type t is told by the kind d. -/
def Opn (enc : TypeId × Value → H) (P : Program) (w : World) (base : Nat) (spare : Nat → Bool) (held : Bool) (t : TypeId) {α : Type} (d : Kd α) : Prop :=
  ∀ (fuel : Nat) (cs : List Value) (x : DataW H × List MemPlace), DataW.trod enc P w base spare held fuel t cs = some x → ∃ a : α, d.K w a cs

theorem opn_int {t : TypeId} {k : IntKind} (ht : P.underlying t = some (.int k)) : Opn enc P w base spare held t (Kd.int k) := fun fuel cs x h => by
  obtain ⟨n, rfl, _⟩ := DataW.trod_int ht h
  exact ⟨n, rfl⟩
theorem opn_bool {t : TypeId} (ht : P.underlying t = some .bool) : Opn enc P w base spare held t Kd.bool := fun fuel cs x h => by
  obtain ⟨b, rfl, _⟩ := DataW.trod_bool ht h
  exact ⟨b, rfl⟩
theorem opn_string {t : TypeId} (ht : P.underlying t = some .string) : Opn enc P w base spare held t Kd.string := fun fuel cs x h => by
  obtain ⟨s, rfl, _⟩ := DataW.trod_string ht h
  exact ⟨s, rfl⟩

theorem opn_slice {α : Type} (z : α) {d : Kd α} {t e : TypeId} (ht : P.underlying t = some (.slice e)) (hs : P.cellsOf e = d.sz) (h : Opn enc P w base spare held e d) : Opn enc P w base spare held t (Kd.slice e d) := by
  intro fuel cs x hx
  rcases open_slice ht hx with ⟨rfl, _⟩ | ⟨a, len, cap, m, n, D, Pl, rfl, _, hl, hm, hmm, _, hel⟩
  · exact ⟨[], none, 0, rfl, Nat.le_refl _, Kd.C_nil _ _⟩
  have hle : len ≤ m := by rw [hmm]; split <;> omega
  haveI : Inhabited α := ⟨z⟩
  obtain ⟨f, hf⟩ := choose_lt (α := α) (n := len) (p := fun i x => ∃ cs', w.cells? base (a.add (i * P.cellsOf e)) (P.cellsOf e) = some cs' ∧ d.K w x cs') (fun i hi => by
    obtain ⟨cs', h1, h2⟩ := hel i (by omega)
    obtain ⟨x, hk⟩ := h n cs' _ h2
    exact ⟨x, cs', h1, hk⟩)
  refine ⟨(List.range len).map f, some a, cap, by simp, by simpa using hl, ?_⟩
  refine ⟨by simp, by unfold maxLen at hm; simp; omega, fun hp => ⟨a, rfl, fun j p hj => ?_⟩⟩
  have hj' : j < len := by have := (List.getElem?_eq_some_iff.1 hj).1; simpa using this
  simp [hj'] at hj
  obtain ⟨cs', h1, h2⟩ := hf j hj'
  subst hj
  refine ⟨cs', d.K_len h2, h2, fun i u hu => ?_⟩
  obtain ⟨_, hlen, hcell⟩ := World.cells?_some h1
  have hi : i < P.cellsOf e := by have := (List.getElem?_eq_some_iff.1 hu).1; omega
  rw [← hs, ← Go.Deep.add_add, hcell i hi]
  exact hu

/-- Two in line, at a place of the cells. -/
theorem pair_at {α β : Type} {a : Kd α} {b : Kd β} {x : α} {y : β} {cs : List Value} (off s : Nat) (h0 : a.K w x ((cs.drop off).take s)) (h1 : b.K w y (cs.drop (off + s))) : (Kd.pair a b).K w (x, y) (cs.drop off) :=
  ⟨(cs.drop off).take s, (cs.drop off).drop s, (List.take_append_drop _ _).symm, h0, by rw [List.drop_drop]; exact h1⟩
theorem last_at {α : Type} {a : Kd α} {x : α} {cs : List Value} (off s : Nat) (hl : cs.length = off + s) (h0 : a.K w x ((cs.drop off).take s)) : a.K w x (cs.drop off) := by
  rwa [List.take_of_length_le (by simp; omega)] at h0
/-- A field's reading. -/
theorem field_at {α : Type} {d : Kd α} {t off s n : Nat} {cs : List Value} {y : Option (DataW H × List MemPlace)} (h : Opn enc P w base spare held t d) (hs : P.cellsOf t = s) (hy : ∃ z, y = some z)
    (hf : DataW.trod enc P w base spare held n t ((cs.drop off).take (P.cellsOf t)) = y) : ∃ a : α, d.K w a ((cs.drop off).take s) := by
  obtain ⟨z, rfl⟩ := hy
  subst hs
  exact h n _ _ hf
end

/-- A slice that came in. -/
theorem slice_in {H : Type} {enc : TypeId × Value → H} {P : Program} {w : World} {base : Nat} {spare : Nat → Bool} {held : Bool} {α : Type} {d : Kd α} {t e : TypeId} {a : Option Addr} {len cap : Nat} {D : DataW H} {p : List MemPlace}
    (h : Opn enc P w base spare held t (Kd.slice e d)) (hd : DataW.Trod enc P w base spare held t (.slice a len cap) D p) :
    ∃ l : List α, len = l.length ∧ l.length ≤ cap ∧ l.length ≤ 9223372036854775807 ∧ d.C w a l.length l := by
  obtain ⟨fuel, hf⟩ := hd
  obtain ⟨l, A, c, he, hl, hC⟩ := h fuel _ _ hf
  simp [Value.cells] at he
  obtain ⟨rfl, rfl, rfl⟩ := he
  exact ⟨l, rfl, hl, hC.2.1, hC⟩
/-- A struct that came in. -/
theorem struct_in {H : Type} {enc : TypeId × Value → H} {P : Program} {w : World} {base : Nat} {spare : Nat → Bool} {held : Bool} {α : Type} {d : Kd α} {t : TypeId} {cs : Array Value} {D : DataW H} {p : List MemPlace}
    (h : Opn enc P w base spare held t d) (hd : DataW.Trod enc P w base spare held t (.agg cs) D p) : ∃ x : α, d.K w x cs.toList := by
  obtain ⟨fuel, hf⟩ := hd
  exact h fuel _ _ hf
theorem agg_of {cs : Array Value} {l : List Value} (h : cs.toList = l) : cs = l.toArray := by rw [← h]
/-- An element of a row that is read. -/
theorem row_K {α : Type} {d : Kd α} {w : World} {A : Option Addr} {n : Nat} {xs : List α} (h : d.C w A n xs) {x : α} (hx : x ∈ xs) : ∃ cs, d.K w x cs := by
  obtain ⟨j, hj, rfl⟩ := List.mem_iff_getElem.mp hx
  obtain ⟨ad, _, hc⟩ := h.2.2 (by have := h.1; omega)
  obtain ⟨c, _, hr, _⟩ := hc j _ (List.getElem?_eq_getElem hj)
  exact ⟨c, hr⟩
end Go.Proofs.Ytaophbkedbphnaa.Opens
end

section
/- Floats among the arguments, opened; no condition. -/
set_option linter.unusedVariables false
set_option linter.unusedSimpArgs false
namespace Go.Proofs.Ytaophbkedbphnaa.Opens
open Go.RowKit Go.Proofs.YtaophbkedbphnaaW.PrintWords Go.Proofs.YtaophbkedbphnaaW.PrintFlt Go.Deep
section
variable {H : Type} {enc : TypeId × Value → H} {P : Program} {w : World} {base : Nat} {spare : Nat → Bool} {held : Bool} {t : TypeId}
theorem trod_flt {fuel : Nat} {cs : List Value} {x : DataW H × List MemPlace} {k : FloatKind} (ht : P.underlying t = some (.float k)) (h : DataW.trod enc P w base spare held fuel t cs = some x) : ∃ b, cs = [.float k b] := by
  cases fuel with
  | zero => simp [DataW.trod] at h
  | succ n =>
    unfold DataW.trod at h
    rw [ht] at h
    split at h <;> simp_all
theorem opn_float (ht : P.underlying t = some (.float .f64)) : Opn enc P w base spare held t Kd.flt := fun fuel cs x h => by
  obtain ⟨b, rfl⟩ := trod_flt ht h
  exact ⟨cn b, b, by rw [un_cn]⟩
end
end Go.Proofs.Ytaophbkedbphnaa.Opens
end

section
/- Plain Lean functions with the same answers as the Go functions of this seat, and a proof for each that the Go code comes to just these answers; no condition. Written by a program of this session (the kit's printer, turned). -/
namespace Go.Proofs.Ytaophbkedbphnaa.fnAtPoints
open Go.ChangeShapes Go.WideShapes Go.ChangeAt Go.RowKit
open Go.ChangeMaps (open_string shut_string)
set_option linter.unusedVariables false
theorem own : ownKnob Try.prog.godebug = none := by kernel_rfl
theorem laidOut : laidOutB Try.prog = true := by kernel_rfl
def IsRow (k : IntKind) (w : World) (a : Option Addr) (len cap : Nat) (zs : List Int) : Prop :=
  (a = none ∧ len = 0 ∧ cap = 0 ∧ zs = []) ∨
  ∃ x, a = some x ∧ len ≤ cap ∧ cap ≤ maxLen ∧ zs.length = cap ∧ (∀ i, i < zs.length → w.cell? (x.add i) = some (.int k (zs.getD i 0))) ∧ ∀ n ∈ zs, (Lit.int k n).wf = true
set_option maxRecDepth 100000 in
theorem lifted (os : Os) (started : os.Started) (H : Type) (enc : TypeId × Value → H) :
    ReturnsInHanded {} Try.checked os 7 .any (Rows.fnAtPointsSpec.pre6 enc Try.prog Try.f7 Rows.fnAtPointsRow.domain false) (Rows.fnAtPointsSpec.post enc Try.prog Try.f7 false true false false) := by
  refine returnsInHanded_of_change_sized (C := Try.checked) own started (by kernel_rfl) Try.func7
    (ChangeSpec.witness6 (enc := enc) (C := Try.checked) false ⟨#[], #[.slice none 0 0, .slice none 0 0], []⟩ 8 (by kernel_rfl) (by kernel_rfl) (by kernel_rfl) (by kernel_rfl)) ?_
  intro W base args ds gs before hval0 hW hcnd hsz0 _
  have hsz : (DataW.weightsEach Try.prog (Try.f7.params.toList ++ Rows.fnAtPointsSpec.plain.varTypes Try.prog) (ds ++ gs)).all (· ≤ reachBytes) = true := hsz0
  have hval : ∀ (j : Nat) t v, Try.f7.params[j]? = some t → args[j]? = some v → Value.okWide Try.prog W .any base t v := hval0
  have hW' := hW
  obtain ⟨p, q, hA0, hV, rfl, hfz, hnd⟩ := hW
  have hA : DataW.TrodAll enc Try.prog W 0 (fun _ => true) true Try.f7.params.toList args.toList ds p := hA0
  rw [Try.params7] at hA hval hsz
  obtain ⟨v0, vs0, d0, ds0, p0, q0, hargs, rfl, rfl, h0, r0⟩ := trodAll_cons hA
  obtain ⟨v1, vs1, d1, ds1, p1, q1, rfl, rfl, rfl, h1, r1⟩ := trodAll_cons r0
  obtain ⟨rfl, rfl, rfl⟩ := trodAll_nil r1
  obtain rfl : args = #[v0, v1] := by cases args; simp_all
  obtain ⟨rfl, rfl⟩ := trodVars_none hV
  obtain ⟨a0, len0, cap0, rfl⟩ := okWide_slice Try.underlying48 (hval 0 48 v0 rfl rfl)
  have k0 := h0
  have lt0 : ∀ x ∈ p0, x.block < W.heap.size := by obtain ⟨m, hm⟩ := k0; exact DataW.trod_lt m _ _ _ hm
  obtain ⟨z0, w0⟩ : ∃ zs, IsRow .u8 W a0 len0 cap0 zs := by
    obtain ⟨fuel, hf⟩ := h0
    rcases open_ints Try.underlying48 Try.underlying5 (by kernel_rfl) hf with ⟨hcs, _⟩ | ⟨x, l, c, zs, hcs, _, hl, hm, hz, _, hcell, hwz⟩
    · simp [Value.cells] at hcs
      obtain ⟨rfl, rfl, rfl⟩ := hcs
      exact ⟨[], .inl ⟨rfl, rfl, rfl, rfl⟩⟩
    · simp [Value.cells] at hcs
      obtain ⟨rfl, rfl, rfl⟩ := hcs
      exact ⟨zs, .inr ⟨_, rfl, hl, hm, by simpa using hz, hcell, hwz⟩⟩
  have y0 : len0 * 1 ≤ 140737488351232 := Go.Proofs.YtaophbkedbphnaaW.PrintWords.sized_ints hsz (j := 0) (t := 48) rfl rfl Try.underlying48 Try.underlying5 (by kernel_rfl) (by kernel_rfl) h0
  obtain ⟨a1, len1, cap1, rfl⟩ := okWide_slice Try.underlying48 (hval 1 48 v1 rfl rfl)
  have k1 := h1
  have lt1 : ∀ x ∈ p1, x.block < W.heap.size := by obtain ⟨m, hm⟩ := k1; exact DataW.trod_lt m _ _ _ hm
  obtain ⟨z1, w1⟩ : ∃ zs, IsRow .u8 W a1 len1 cap1 zs := by
    obtain ⟨fuel, hf⟩ := h1
    rcases open_ints Try.underlying48 Try.underlying5 (by kernel_rfl) hf with ⟨hcs, _⟩ | ⟨x, l, c, zs, hcs, _, hl, hm, hz, _, hcell, hwz⟩
    · simp [Value.cells] at hcs
      obtain ⟨rfl, rfl, rfl⟩ := hcs
      exact ⟨[], .inl ⟨rfl, rfl, rfl, rfl⟩⟩
    · simp [Value.cells] at hcs
      obtain ⟨rfl, rfl, rfl⟩ := hcs
      exact ⟨zs, .inr ⟨_, rfl, hl, hm, by simpa using hz, hcell, hwz⟩⟩
  have y1 : len1 * 1 ≤ 140737488351232 := Go.Proofs.YtaophbkedbphnaaW.PrintWords.sized_ints hsz (j := 1) (t := 48) rfl rfl Try.underlying48 Try.underlying5 (by kernel_rfl) (by kernel_rfl) h1
  clear hA0 hval0 hsz0 hsz
  refine (Q.laws_FnAtPoints.walk Pure.FnAtPoints a0 len0 cap0 z0 a1 len1 cap1 z1 W w0 y0 w1 y1).mono fun e W' ⟨he, bel⟩ => ?_
  subst he
  exact ⟨_, rfl, _, _, _, [], _, [], hW', trodAll_mk1 (shut_bool Try.underlying4 _), (trodAll_cons_mk (Below.trod laidOut (by kernel_rfl) (of_decide_eq_true (by kernel_rfl)) k0 bel lt0) (trodAll_cons_mk (Below.trod laidOut (by kernel_rfl) (of_decide_eq_true (by kernel_rfl)) k1 bel lt1) trodAll_mk0)), rfl, bel.frame _, fun h => by cases h⟩
theorem over : Rows.fnAtPointsRow.holds Try.pinned (OpenSpec.ofChange Rows.fnAtPointsSpec) :=
  OpenClaim.holds_of_wide 7 Try.f7 rfl rfl rfl rfl rfl rfl rfl ⟨rfl, rfl, rfl, rfl, rfl⟩ rfl rfl rfl rfl rfl (by kernel_rfl) Try.func7 (by kernel_rfl)
    (of_decide_eq_true (by kernel_rfl)) (by unfold Func.isWrapper; first | (rw [if_pos (by decide +kernel)]; kernel_rfl) | (rw [if_neg (by decide +kernel)]; exact ⟨rfl, rfl⟩))
    (fun os started H enc _ => lifted os started H enc)
theorem proved : Rows.FnAtPointsSaid := over
#print axioms proved
end Go.Proofs.Ytaophbkedbphnaa.fnAtPoints
namespace Go.Proofs.Ytaophbkedbphnaa
/-- The row, under a short name, for the claim. -/
theorem fnAtPoints_holds : Rows.FnAtPointsSaid := fnAtPoints.proved
end Go.Proofs.Ytaophbkedbphnaa
end
