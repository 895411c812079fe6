/- The plain statement of the law FnExactSmooth: program and reference tell the same mean of every point of a grid and of those beside it, and hand back a list of their own; no condition. -/
import Derived.Test.YtaophbkedbphnabWWords
import Derived.Test.YtaophbkedbphnabWMore
import Derived.Test.YtaophbkedbphnabFlt
import Derived.Test.YtaophbkedbphnabQx1
import Derived.Test.YtaophbkedbphnabQx12
import Derived.Test.YtaophbkedbphnabQx11
import Derived.Test.YtaophbkedbphnabQx26
import Derived.Test.YtaophbkedbphnabQx27
import Derived.Test.YtaophbkedbphnabQx28
import Derived.Deep.Slices
import Derived.ChangeArms
import Derived.WideShapes
import Derived.Test.YtaophbkedbphnabQx10
import Derived.Test.YtaophbkedbphnabQx13
import Derived.Test.YtaophbkedbphnabQx14
import Derived.Test.YtaophbkedbphnabQx15
import Derived.Test.YtaophbkedbphnabQx17
import Derived.Test.YtaophbkedbphnabQx18
import Derived.Test.YtaophbkedbphnabQx2
import Derived.Test.YtaophbkedbphnabQx20
import Derived.Test.YtaophbkedbphnabQx21
import Derived.Test.YtaophbkedbphnabQx22
import Derived.Test.YtaophbkedbphnabQx23
import Derived.Test.YtaophbkedbphnabQx24
import Derived.Test.YtaophbkedbphnabQx25
import Derived.Test.YtaophbkedbphnabQx29
import Derived.Test.YtaophbkedbphnabQx3
import Derived.Test.YtaophbkedbphnabQx30
import Derived.Test.YtaophbkedbphnabQx4
import Derived.Test.YtaophbkedbphnabQx5
import Derived.Test.YtaophbkedbphnabQx6
import Derived.Test.YtaophbkedbphnabQx7
import Derived.Test.YtaophbkedbphnabQx8
import Derived.Test.YtaophbkedbphnabQx9
import Derived.Test.YtaophbkedbphnabRows
import Derived.WalkKit
import Derived.ProofKit
import Derived.OpenShut
import Derived.ShutString
import Derived.ChangeOld
import Derived.Below
import Derived.SizedLaws
import Derived.Laws.Cover2

section
/- Loops told by rounds: general lemmas for the plain statements of this seat: a loop with an invariant and a measure ends; copying, comparing, marking of lists. No condition. -/
set_option linter.unusedVariables false
set_option linter.unusedSimpArgs false
namespace Go.Proofs.Ytaophbkedbphnab.Gen
open Go.RowKit Go.Proofs.YtaophbkedbphnabW.PrintWords Go.Proofs.YtaophbkedbphnabW.PrintMore

theorem loop {S R : Type} (g : Nat → S → Option R) (μ : S → Nat) (Inv : S → Prop) (Q : R → Prop)
    (step : ∀ s, Inv s → (∃ r, Q r ∧ Ev (fun k => g k s) r) ∨ ∃ s', Inv s' ∧ μ s' < μ s ∧ ∃ K, ∀ k, K ≤ k → g (k + 1) s = g k s') :
    ∀ s, Inv s → ∃ r, Q r ∧ Ev (fun k => g k s) r := by
  intro s
  induction hm : μ s using Nat.strongRecOn generalizing s with
  | _ m ih =>
    intro hs
    rcases step s hs with h | ⟨s', hs', hlt, K, hK⟩
    · exact h
    · obtain ⟨r, hq, K', hr⟩ := ih (μ s') (hm ▸ hlt) s' rfl hs'
      refine ⟨r, hq, max K K' + 1, fun k hk => ?_⟩
      obtain ⟨j, rfl⟩ : ∃ j, k = j + 1 := ⟨k - 1, by omega⟩
      show g (j + 1) s = some r
      rw [hK j (by omega)]
      exact hr j (by omega)

/-- A loop whose answer is known. -/
theorem loopEq {S R : Type} (g : Nat → S → Option R) (μ : S → Nat) (Inv : S → Prop) (r : R)
    (step : ∀ s, Inv s → Ev (fun k => g k s) r ∨ ∃ s', Inv s' ∧ μ s' < μ s ∧ ∃ K, ∀ k, K ≤ k → g (k + 1) s = g k s') :
    ∀ s, Inv s → Ev (fun k => g k s) r := by
  intro s hs
  obtain ⟨q, rfl, h⟩ := loop g μ Inv (fun q => q = r) (fun s hs => by
    rcases step s hs with h | h
    · exact .inl ⟨r, rfl, h⟩
    · exact .inr h) s hs
  exact h

theorem Ev_succ {R : Type} {g : Nat → Option R} {r : R} (h : ∀ k, g (k + 1) = some r) : Ev g r :=
  Ev.step (f := fun _ => some r) h (Ev.now r)

theorem evPos {R : Type} {c : Prop} [Decidable c] {g g' : Nat → Option R} {r : R} (hc : c) (h : Ev g r) : Ev (fun k => if c then g k else g' k) r := by
  simpa only [if_pos hc] using h
theorem evNeg {R : Type} {c : Prop} [Decidable c] {g g' : Nat → Option R} {r : R} (hc : ¬ c) (h : Ev g' r) : Ev (fun k => if c then g k else g' k) r := by
  simpa only [if_neg hc] using h
theorem ev_at {R : Type} {g : Nat → Option R} {r : R} (h : Ev g r) : ∃ K, ∀ k, K ≤ k → g k = some r := h

theorem w64 {x : Int} (h0 : -9223372036854775808 ≤ x) (h1 : x ≤ 9223372036854775807) : wrap64 x = x := by unfold wrap64; omega

theorem wf64 {x : Int} (h : (Lit.int .i64 x).wf = true) : -9223372036854775808 ≤ x ∧ x ≤ 9223372036854775807 := by
  simp [Lit.wf] at h
  exact ⟨h.1, h.2⟩

/-! lists -/
theorem rd_nat (xs : List Int) (i : Nat) : rd xs (i : Int) = xs.getD i 0 := by simp [rd]
theorem toNat_nat (i : Nat) : ((i : Int)).toNat = i := Int.toNat_natCast i

theorem getD_append_left {α} (xs ys : List α) (d : α) {i : Nat} (h : i < xs.length) : (xs ++ ys).getD i d = xs.getD i d := by
  simp [List.getD_eq_getElem?_getD, List.getElem?_append_left h]

/-- Copying element by element into a list of the same length. -/
theorem take_set_succ {α} (xs ys : List α) (d : α) (i : Nat) (hl : ys.length = xs.length) (hi : i < xs.length) (h : ys.take i = xs.take i) :
    (ys.set i (xs.getD i d)).take (i + 1) = xs.take (i + 1) := by
  apply List.ext_getElem?
  intro j
  have hj := congrArg (fun l => l[j]?) h
  simp only [List.getElem?_take] at hj ⊢
  by_cases h1 : j < i
  · simp [h1] at hj
    have : j < i + 1 := by omega
    simp [this, List.getElem?_set, show i ≠ j by omega, hj]
  · by_cases h2 : j = i
    · subst h2
      simp [List.getElem?_set, hl, hi, List.getD_eq_getElem?_getD]
    · have : ¬ j < i + 1 := by omega
      simp [this]

theorem eq_of_take {α} (xs ys : List α) (hl : ys.length = xs.length) (h : ys.take xs.length = xs.take xs.length) : ys = xs := by
  rw [List.take_of_length_le (by omega), List.take_of_length_le (by omega)] at h
  exact h

/-- The numbers from a on. -/
def marks (a : Int) (n : Nat) : List Int := (List.range n).map fun (j : Nat) => a + (j : Int)
theorem marks_length (a : Int) (n : Nat) : (marks a n).length = n := by simp [marks]
theorem marks_get (a : Int) (n i : Nat) (h : i < n) : (marks a n).getD i 0 = a + (i : Int) := by
  simp [marks, List.getD_eq_getElem?_getD, h]

/-- A counting loop whose state is known at each round. -/
theorem count {S R : Type} (g : Nat → Int → S → Option R) (n : Nat) (st : Nat → S) (r : R)
    (step : ∀ j, j < n → ∃ K, ∀ k, K ≤ k → g (k + 1) (j : Int) (st j) = g k ((j + 1 : Nat) : Int) (st (j + 1)))
    (last : Ev (fun k => g k (n : Int) (st n)) r) : ∀ j, j ≤ n → Ev (fun k => g k (j : Int) (st j)) r := by
  intro j hj
  induction hd : n - j generalizing j with
  | zero =>
    obtain rfl : j = n := by omega
    exact last
  | succ d ih =>
    obtain ⟨K, hK⟩ := step j (by omega)
    obtain ⟨K', h'⟩ := ih (j + 1) (by omega) (by omega)
    refine ⟨max K K' + 1, fun k hk => ?_⟩
    obtain ⟨m, rfl⟩ : ∃ m, k = m + 1 := ⟨k - 1, by omega⟩
    show g (m + 1) (j : Int) (st j) = some r
    rw [hK m (by omega)]
    exact h' m (by omega)

/-- A loop that may end early: what it answers from each place on is known. -/
theorem scan {R : Type} (g : Nat → Int → Option R) (n : Nat) (res : Nat → R)
    (step : ∀ j, j < n → (res j = res (j + 1) ∧ ∃ K, ∀ k, K ≤ k → g (k + 1) (j : Int) = g k ((j + 1 : Nat) : Int)) ∨ Ev (fun k => g k (j : Int)) (res j))
    (last : Ev (fun k => g k (n : Int)) (res n)) : ∀ j, j ≤ n → Ev (fun k => g k (j : Int)) (res j) := by
  intro j hj
  induction hd : n - j generalizing j with
  | zero =>
    obtain rfl : j = n := by omega
    exact last
  | succ d ih =>
    rcases step j (by omega) with ⟨e, K, hK⟩ | h
    · obtain ⟨K', h'⟩ := ih (j + 1) (by omega) (by omega)
      refine ⟨max K K' + 1, fun k hk => ?_⟩
      obtain ⟨m, rfl⟩ : ∃ m, k = m + 1 := ⟨k - 1, by omega⟩
      show g (m + 1) (j : Int) = some (res j)
      rw [hK m (by omega), e]
      exact h' m (by omega)
    · exact h

/-- A scan where each place's answer follows from the next one's. -/
theorem scanE {R : Type} (g : Nat → Int → Option R) (n : Nat) (res : Nat → R)
    (step : ∀ j, j < n → Ev (fun k => g k ((j + 1 : Nat) : Int)) (res (j + 1)) → Ev (fun k => g k (j : Int)) (res j))
    (fin : Ev (fun k => g k (n : Int)) (res n)) : ∀ j, j ≤ n → Ev (fun k => g k (j : Int)) (res j) := by
  have main : ∀ t j, n - j = t → j ≤ n → Ev (fun k => g k (j : Int)) (res j) := by
    intro t
    induction t with
    | zero =>
      intro j h1 h2
      obtain rfl : j = n := by omega
      exact fin
    | succ t ih =>
      intro j h1 h2
      exact step j (by omega) (ih (j + 1) (by omega) (by omega))
  exact fun j hj => main _ j rfl hj

theorem all_drop {α} (l : List α) (p : α → Bool) (d : α) (j : Nat) (hj : j < l.length) : (l.drop j).all p = (p (l.getD j d) && (l.drop (j + 1)).all p) := by
  rw [List.drop_eq_getElem_cons hj, List.all_cons, List.getD_eq_getElem?_getD, List.getElem?_eq_getElem hj]
  rfl

/-- Are all of them from low to high? -/
def allIn (l : List Int) (lo hi : Int) : Bool := l.all fun x => decide (lo ≤ x) && decide (x ≤ hi)
theorem allIn_get {l : List Int} {lo hi : Int} (h : allIn l lo hi = true) (i : Nat) (hi' : i < l.length) : lo ≤ l.getD i 0 ∧ l.getD i 0 ≤ hi := by
  simp only [allIn, List.all_eq_true] at h
  have := h (l.getD i 0) (by rw [List.getD_eq_getElem?_getD, List.getElem?_eq_getElem hi']; exact List.getElem_mem hi')
  simpa using this

theorem up1 {j : Nat} (h : j < 4611686018427387904) : wrap64 ((j : Int) + 1) = ((j + 1 : Nat) : Int) := by unfold wrap64; omega

/-- The first j elements copied. -/
def mixed {α} (xs ys : List α) (j : Nat) : List α := xs.take j ++ ys.drop j
theorem mixed_length {α} (xs ys : List α) (j : Nat) (h : ys.length = xs.length) : (mixed xs ys j).length = xs.length := by simp [mixed]; omega
theorem mixed_zero {α} (xs ys : List α) : mixed xs ys 0 = ys := by simp [mixed]
theorem mixed_all {α} (xs ys : List α) (h : ys.length = xs.length) : mixed xs ys xs.length = xs := by simp [mixed, h]
theorem mixed_set {α} (xs ys : List α) (d : α) (j : Nat) (hl : ys.length = xs.length) (hj : j < xs.length) : (mixed xs ys j).set j (xs.getD j d) = mixed xs ys (j + 1) := by
  apply List.ext_getElem?
  intro i
  simp only [mixed, List.getElem?_set, List.getElem?_append, List.length_take, List.length_append, List.length_drop, List.getElem?_take, List.getElem?_drop, List.getD_eq_getElem?_getD]
  by_cases h1 : i < j
  · have : i < min j xs.length := by omega
    have h2 : i < min (j + 1) xs.length := by omega
    have h3 : i < j + 1 := by omega
    have h4 : ¬ j = i := by omega
    simp [this, h2, h1, h3, h4]
  · by_cases h2 : i = j
    · subst h2
      have h3 : i < min (i + 1) xs.length := by omega
      have h4 : i < min i xs.length + (ys.length - i) := by omega
      simp [h3, h4, List.getElem?_eq_getElem hj]
    · have h3 : ¬ i < min j xs.length := by omega
      have h4 : ¬ i < min (j + 1) xs.length := by omega
      have h5 : ¬ j = i := by omega
      simp only [h5, h3, h4, if_false]
      congr 1
      omega
theorem mixed_get_right {α} (xs ys : List α) (d : α) (j i : Nat) (hi : j ≤ i) (hj : j ≤ xs.length) : (mixed xs ys j).getD i d = ys.getD i d := by
  simp only [mixed, List.getD_eq_getElem?_getD]
  rw [List.getElem?_append_right (by simp; omega)]
  simp only [List.length_take, List.getElem?_drop]
  congr 2
  omega

/-- A list of n numbers told by a function. -/
def tab (n : Nat) (f : Nat → Int) : List Int := (List.range n).map f
theorem tab_length (n : Nat) (f : Nat → Int) : (tab n f).length = n := by simp [tab]
theorem tab_get (n : Nat) (f : Nat → Int) (i : Nat) (h : i < n) : (tab n f).getD i 0 = f i := by simp [tab, List.getD_eq_getElem?_getD, h]
theorem tab_succ (n : Nat) (f : Nat → Int) : tab (n + 1) f = tab n f ++ [f n] := by simp [tab, List.range_succ]

end Go.Proofs.Ytaophbkedbphnab.Gen
end

section
/- Plain facts on floats told by their worth: what equals itself, what is no NaN. -/
set_option linter.unusedVariables false
set_option linter.unusedSimpArgs false
namespace Go.Proofs.Ytaophbkedbphnab.Gen
open Go.RowKit Go.Proofs.YtaophbkedbphnabW.PrintWords Go.Proofs.YtaophbkedbphnabW.PrintFlt

theorem fne_eq (x y : Nat) : fne x y = !feq x y := rfl
theorem order_self (d : Ieee.Datum) (h : d.isNaN = false) : d.order d = some .eq := by
  cases d with
  | number s m e =>
    simp only [Ieee.Datum.order, Option.some.injEq]
    exact Std.ReflCmp.compare_self
  | infinity s => cases s <;> rfl
  | nan s f => simp [Ieee.Datum.isNaN] at h
theorem feq_self (x : Nat) : feq x x = !isn x := by
  unfold feq isn Ieee.Format.order
  cases h : (Ieee.double.read x).isNaN with
  | false => rw [order_self _ h]; rfl
  | true =>
    obtain ⟨s, f, e⟩ := read_nan (b := x) h
    rw [e]
    rfl
theorem fne_self (x : Nat) : fne x x = isn x := by rw [fne_eq, feq_self, Bool.not_not]
theorem isn_word (s : Bool) (r : Nat) (h : r ≤ Ieee.double.infRung) : isn (Ieee.double.word s r) = false := by
  have h1 : Ieee.double.signWeight = 2 ^ 63 := by decide
  have h2 : Ieee.double.binade = 2 ^ 52 := by decide
  have h3 : Ieee.double.infRung = 0x7ff0000000000000 := by decide +kernel
  rw [h3] at h
  have hm : Ieee.double.word s r % 2 ^ 63 = r := by
    unfold Ieee.Format.word
    rw [h1]
    cases s <;> simp <;> omega
  unfold isn Ieee.Format.read
  simp only [h1, h2, h3, hm]
  split
  · rfl
  · split
    · rfl
    · rw [if_pos (by omega)]
      rfl
theorem isn_nearest (s : Bool) (m : Nat) (p : Int) : isn (Ieee.double.nearest s m p) = false := by
  unfold Ieee.Format.nearest
  dsimp only
  split
  · exact isn_word _ _ (Nat.zero_le _)
  · exact isn_word _ _ (Nat.min_le_right ..)
theorem isn_foi (n : Int) : isn (foi n) = false := isn_nearest _ _ _
theorem isn_write (d : Ieee.Datum) (h : d.isNaN = false) : isn (Ieee.double.write d) = false := by
  cases d with
  | number s m e => exact isn_nearest _ _ _
  | infinity s => exact isn_word _ _ (Nat.le_refl _)
  | nan s f => simp [Ieee.Datum.isNaN] at h
/-- Is it a number? -/
def fin (x : Nat) : Bool := match Ieee.double.read x with
  | .number .. => true
  | _ => false
theorem sub_self (d : Ieee.Datum) : (d.sum d.opposite).map Ieee.double.write = match d with
    | .number .. => some 0
    | _ => none := by
  cases d with
  | number s m e =>
    have h0 : ∀ u, Ieee.signed s m u + Ieee.signed (!s) m u = 0 := by
      intro u
      unfold Ieee.signed
      cases s <;> simp <;> omega
    simp only [Ieee.Datum.opposite, Ieee.Datum.sum, h0, if_true]
    have : (s && !s) = false := by cases s <;> rfl
    simp only [this, Int.natAbs_zero, Option.map_some, Ieee.Format.write, Ieee.Format.nearest, if_true]
    rfl
  | infinity s => cases s <;> rfl
  | nan s f => rfl
theorem known1 (x : Nat) : feq (fsub x x) 0 = fin x := by
  unfold fsub Ieee.Format.sub fin
  rw [sub_self]
  cases h : Ieee.double.read x with
  | number s m e => exact (by decide +kernel : feq 0 0 = true)
  | infinity s => exact (by decide +kernel : feq qnan 0 = false)
  | nan s f => exact (by decide +kernel : feq qnan 0 = false)
theorem read_mod (x : Nat) : Ieee.double.read (x % 9223372036854775808) = match Ieee.double.read x with
    | .number _ m e => .number false m e
    | .infinity _ => .infinity false
    | .nan _ f => .nan false f := by
  have h1 : Ieee.double.signWeight = 9223372036854775808 := by decide +kernel
  have h2 : (x % 9223372036854775808) / 9223372036854775808 % 2 = 0 := by omega
  unfold Ieee.Format.read
  simp only [h1, Nat.mod_mod, h2]
  by_cases c1 : x % 9223372036854775808 < Ieee.double.binade
  · simp only [c1, if_true]; rfl
  · by_cases c2 : x % 9223372036854775808 < Ieee.double.infRung
    · simp only [c1, c2, if_true, if_false]; rfl
    · by_cases c3 : x % 9223372036854775808 = Ieee.double.infRung
      · simp only [c1, c2, c3, if_true, if_false]; rfl
      · simp only [c1, c2, c3, if_false]; rfl
theorem read_bound {x : Nat} {s : Bool} {m : Nat} {e : Int} (h : Ieee.double.read x = .number s m e) : m ≤ 9007199254740991 ∧ -1074 ≤ e ∧ e ≤ 971 := by
  have h1 : Ieee.double.signWeight = 9223372036854775808 := by decide +kernel
  have h2 : Ieee.double.binade = 4503599627370496 := by decide +kernel
  have h3 : Ieee.double.infRung = 9218868437227405312 := by decide +kernel
  have h4 : Ieee.double.leastPlace = -1074 := by decide +kernel
  unfold Ieee.Format.read at h
  simp only [h1, h2, h3, h4] at h
  split at h
  · injection h with _ hm he
    omega
  · split at h
    · injection h with _ hm he
      omega
    · split at h <;> cases h
theorem known2 (x : Nat) : (!isn x && !fgt (fabs x) 9218868437227405311) = fin x := by
  unfold fabs fin
  cases h : Ieee.double.read x with
  | number s m e =>
    have hn : isn x = false := by unfold isn; rw [h]; rfl
    have hm : Ieee.double.read 9218868437227405311 = .number false 9007199254740991 971 := by decide +kernel
    obtain ⟨b1, b2, b3⟩ := read_bound h
    have hg : fgt (x % 9223372036854775808) 9218868437227405311 = false := by
      unfold fgt Ieee.Format.order
      rw [read_mod, h, hm]
      simp only [Ieee.Datum.order]
      have hmin : min e 971 = e := by omega
      rw [hmin]
      have ha : Ieee.signed false m (e - e).toNat = (m : Int) := by simp [Ieee.signed]
      have hb : (m : Int) ≤ Ieee.signed false 9007199254740991 (971 - e).toNat := by
        simp only [Ieee.signed, Bool.false_eq_true, if_false, Nat.shiftLeft_eq]
        have h2 : 1 ≤ 2 ^ (971 - e).toNat := Nat.one_le_two_pow
        have := Nat.mul_le_mul (Nat.le_refl 9007199254740991) h2
        omega
      rw [ha]
      generalize Ieee.signed false 9007199254740991 (971 - e).toNat = q at hb
      have : compare (m : Int) q ≠ .gt := by
        intro hc
        have := Int.compare_eq_gt.mp hc
        omega
      cases hc : compare (m : Int) q with
      | gt => exact absurd hc this
      | lt => rfl
      | eq => rfl
    rw [hn, if_neg (by decide), hg]
    rfl
  | infinity s =>
    have hn : isn x = false := by unfold isn; rw [h]; rfl
    have hm : Ieee.double.read 9218868437227405311 = .number false 9007199254740991 971 := by decide +kernel
    have hg : fgt (x % 9223372036854775808) 9218868437227405311 = true := by
      unfold fgt Ieee.Format.order
      rw [read_mod, h, hm]
      rfl
    rw [hn, if_neg (by decide), hg]
    rfl
  | nan s f =>
    have hn : isn x = true := by unfold isn; rw [h]; rfl
    rw [hn]
    rfl
theorem fin_isn {x : Nat} (h : fin x = true) : isn x = false := by
  unfold fin at h
  unfold isn
  split at h
  · rename_i e; rw [e]; rfl
  · cases h
end Go.Proofs.Ytaophbkedbphnab.Gen
end

section
/- Bounds: what the program's and the reference's tests of ranges answer. -/
set_option linter.unusedVariables false
set_option linter.unusedSimpArgs false
namespace Go.Proofs.Ytaophbkedbphnab.Gen
open Go.RowKit Go.Proofs.Ytaophbkedbphnab.Q Go.Proofs.Ytaophbkedbphnab.Gen Go.Proofs.YtaophbkedbphnabW.PrintWords Go.Proofs.YtaophbkedbphnabW.PrintMore

def inS (a b c : Int) : Bool := decide (b ≤ a) && decide (a ≤ c)
theorem inS_iff (a b c : Int) : inS a b c = true ↔ b ≤ a ∧ a ≤ c := by simp [inS]
theorem l2In_s (a b c : Int) : spec_l2In.f a b c = some (inS a b c) := by
  unfold spec_l2In.f inS; by_cases h : a ≥ b <;> simp [h, show b ≤ a ↔ a ≥ b from Iff.rfl]
theorem in_s (a b c : Int) : impl_in.f a b c = some (inS a b c) := by
  unfold impl_in.f inS; by_cases h : a ≥ b <;> simp [h, show b ≤ a ↔ a ≥ b from Iff.rfl]

end Go.Proofs.Ytaophbkedbphnab.Gen
end

section
/- What the helpers of the laws answer for lists of Float64: copies, comparisons, marks; for lists of at most 2^20 elements. -/
set_option linter.unusedVariables false
set_option linter.unusedSimpArgs false
namespace Go.Proofs.Ytaophbkedbphnab.Gen
open Go.RowKit Go.Proofs.Ytaophbkedbphnab.Q Go.Proofs.YtaophbkedbphnabW.PrintWords Go.Proofs.YtaophbkedbphnabW.PrintMore Go.Proofs.YtaophbkedbphnabW.PrintFlt

theorem sameFloat_ev (x : Nat) : Ev (fun k => laws_sameFloat.f k x x) true := by
  have hj : Ev (fun k => laws_sameFloat.j0 k x x (fne x x)) true := by
    refine Ev_succ fun k => ?_
    simp only [laws_sameFloat.j0]
    cases h : fne x x with
    | true => rw [if_pos rfl, if_pos rfl]
    | false =>
      rw [if_neg (by decide)]
      have h2 : feq x x = true := by rw [fne_eq] at h; simpa using h
      by_cases h3 : feq x 0 = true
      · rw [if_pos h3, if_pos h3, beq_self_eq_true]
      · rw [if_neg h3, h2]
  simp only [laws_sameFloat.f]
  by_cases h : fne x x = true
  · rw [h] at hj
    exact evPos h hj
  · exact evNeg h hj

theorem toFloat64S_ev (l : List Nat) (h : l.length ≤ 1048576) : Ev (fun k => laws_toFloat64S.f k l) l := by
  simp only [laws_toFloat64S.f]
  refine evPos (by omega) (evPos (by simp; omega) ?_)
  have := count (fun k i (s : List Nat) => laws_toFloat64S.l0 k l s i) l.length (fun j => mixed l (List.replicate l.length 0) j) l ?_ ?_ 0 (by omega)
  · simpa [mixed_zero] using this
  · intro j hj
    refine ⟨0, fun k _ => ?_⟩
    simp only [laws_toFloat64S.l0]
    rw [if_pos (by omega), if_pos (by omega), if_pos (by rw [mixed_length _ _ _ (by simp)]; omega), up1 (by omega), Int.toNat_natCast]
    have hm := mixed_set l (List.replicate l.length 0) 0 j (by simp) hj
    rw [← hm]
    congr 2 <;> simp [rd_F]
  · refine Ev_succ (fun k => ?_)
    simp only [laws_toFloat64S.l0]
    rw [if_neg (by omega), mixed_all _ _ (by simp)]

def marksF64 (a m : Nat) : List Nat := (List.range m).map fun i => foi ((a + i : Nat) : Int)
theorem marksF64_length (a m : Nat) : (marksF64 a m).length = m := by simp [marksF64]
theorem marksF64_get (a m i : Nat) (h : i < m) : (marksF64 a m).getD i 0 = foi ((a + i : Nat) : Int) := by simp [marksF64, List.getD_eq_getElem?_getD, h]
theorem markFloat64S_ev (l : List Nat) (a : Nat) (h : l.length ≤ 1099511627776) (ha : a ≤ 1152921504606846976) : Ev (fun k => laws_markFloat64S.f k l (a : Int)) (((a + l.length : Nat) : Int), marksF64 a l.length) := by
  simp only [laws_markFloat64S.f]
  have := count (fun k i (s : List Nat × Int) => laws_markFloat64S.l0 k s.1 s.2 i) l.length (fun j => (mixed (marksF64 a l.length) l j, ((a + j : Nat) : Int))) (((a + l.length : Nat) : Int), marksF64 a l.length) ?_ ?_ 0 (by omega)
  · simpa [mixed_zero] using this
  · intro j hj
    refine ⟨0, fun k _ => ?_⟩
    have hL : (mixed (marksF64 a l.length) l j).length = l.length := by rw [mixed_length _ _ _ (by rw [marksF64_length]), marksF64_length]
    have hm := mixed_set (marksF64 a l.length) l 0 j (by rw [marksF64_length]) (by rw [marksF64_length]; exact hj)
    rw [marksF64_get _ _ _ hj] at hm
    simp only [laws_markFloat64S.l0]
    rw [if_pos (by omega), if_pos (by omega), Int.toNat_natCast, up1 (j := a + j) (by omega), up1 (j := j) (by omega)]
    show laws_markFloat64S.l0 k _ _ _ = laws_markFloat64S.l0 k _ _ _
    rw [← hm]
    congr 1
  · refine Ev_succ (fun k => ?_)
    simp only [laws_markFloat64S.l0]
    rw [if_neg (by rw [mixed_length _ _ _ (by rw [marksF64_length]), marksF64_length]; omega)]
    have := mixed_all (marksF64 a l.length) l (by rw [marksF64_length])
    rw [marksF64_length] at this
    rw [this]


theorem eqFloat64S_ev (l : List Nat) (h : l.length ≤ 1099511627776) : Ev (fun k => laws_eqFloat64S.f k l l) true := by
  simp only [laws_eqFloat64S.f]
  refine evPos trivial ?_
  refine scanE (fun k i => laws_eqFloat64S.l0 k l l i) l.length (fun _ => true) ?_ ?_ 0 (by omega)
  · intro j hj ih
    refine Ev.step (fun k => laws_eqFloat64S.l0.eq_2 _ _ _ k) ?_
    refine evPos (by omega) (evPos (by omega) (evPos (by omega) (Ev.bind (sameFloat_ev _) (evPos rfl ?_))))
    rw [up1 (by omega)]
    exact ih
  · refine Ev_succ (fun k => ?_)
    simp only [laws_eqFloat64S.l0]
    rw [if_neg (by omega)]

end Go.Proofs.Ytaophbkedbphnab.Gen
end

section
/- Arguments of any shape, opened: what a datum's reading says of its cells, by kinds; no condition. -/
set_option linter.unusedVariables false
set_option linter.unusedSimpArgs false
namespace Go.Proofs.Ytaophbkedbphnab.Opens
open Go.RowKit Go.Proofs.YtaophbkedbphnabW.PrintWords Go.Deep

section
variable {H : Type} {enc : TypeId × Value → H} {P : Program} {w : World} {base : Nat} {spare : Nat → Bool} {held : Bool}
/-- Whatever is read as type t is told by the kind d. -/
def Opn (enc : TypeId × Value → H) (P : Program) (w : World) (base : Nat) (spare : Nat → Bool) (held : Bool) (t : TypeId) {α : Type} (d : Kd α) : Prop :=
  ∀ (fuel : Nat) (cs : List Value) (x : DataW H × List MemPlace), DataW.trod enc P w base spare held fuel t cs = some x → ∃ a : α, d.K w a cs

theorem opn_int {t : TypeId} {k : IntKind} (ht : P.underlying t = some (.int k)) : Opn enc P w base spare held t (Kd.int k) := fun fuel cs x h => by
  obtain ⟨n, rfl, _⟩ := DataW.trod_int ht h
  exact ⟨n, rfl⟩
theorem opn_bool {t : TypeId} (ht : P.underlying t = some .bool) : Opn enc P w base spare held t Kd.bool := fun fuel cs x h => by
  obtain ⟨b, rfl, _⟩ := DataW.trod_bool ht h
  exact ⟨b, rfl⟩
theorem opn_string {t : TypeId} (ht : P.underlying t = some .string) : Opn enc P w base spare held t Kd.string := fun fuel cs x h => by
  obtain ⟨s, rfl, _⟩ := DataW.trod_string ht h
  exact ⟨s, rfl⟩

theorem opn_slice {α : Type} (z : α) {d : Kd α} {t e : TypeId} (ht : P.underlying t = some (.slice e)) (hs : P.cellsOf e = d.sz) (h : Opn enc P w base spare held e d) : Opn enc P w base spare held t (Kd.slice e d) := by
  intro fuel cs x hx
  rcases open_slice ht hx with ⟨rfl, _⟩ | ⟨a, len, cap, m, n, D, Pl, rfl, _, hl, hm, hmm, _, hel⟩
  · exact ⟨[], none, 0, rfl, Nat.le_refl _, Kd.C_nil _ _⟩
  have hle : len ≤ m := by rw [hmm]; split <;> omega
  haveI : Inhabited α := ⟨z⟩
  obtain ⟨f, hf⟩ := choose_lt (α := α) (n := len) (p := fun i x => ∃ cs', w.cells? base (a.add (i * P.cellsOf e)) (P.cellsOf e) = some cs' ∧ d.K w x cs') (fun i hi => by
    obtain ⟨cs', h1, h2⟩ := hel i (by omega)
    obtain ⟨x, hk⟩ := h n cs' _ h2
    exact ⟨x, cs', h1, hk⟩)
  refine ⟨(List.range len).map f, some a, cap, by simp, by simpa using hl, ?_⟩
  refine ⟨by simp, by unfold maxLen at hm; simp; omega, fun hp => ⟨a, rfl, fun j p hj => ?_⟩⟩
  have hj' : j < len := by have := (List.getElem?_eq_some_iff.1 hj).1; simpa using this
  simp [hj'] at hj
  obtain ⟨cs', h1, h2⟩ := hf j hj'
  subst hj
  refine ⟨cs', d.K_len h2, h2, fun i u hu => ?_⟩
  obtain ⟨_, hlen, hcell⟩ := World.cells?_some h1
  have hi : i < P.cellsOf e := by have := (List.getElem?_eq_some_iff.1 hu).1; omega
  rw [← hs, ← Go.Deep.add_add, hcell i hi]
  exact hu

/-- Two in line, at a place of the cells. -/
theorem pair_at {α β : Type} {a : Kd α} {b : Kd β} {x : α} {y : β} {cs : List Value} (off s : Nat) (h0 : a.K w x ((cs.drop off).take s)) (h1 : b.K w y (cs.drop (off + s))) : (Kd.pair a b).K w (x, y) (cs.drop off) :=
  ⟨(cs.drop off).take s, (cs.drop off).drop s, (List.take_append_drop _ _).symm, h0, by rw [List.drop_drop]; exact h1⟩
theorem last_at {α : Type} {a : Kd α} {x : α} {cs : List Value} (off s : Nat) (hl : cs.length = off + s) (h0 : a.K w x ((cs.drop off).take s)) : a.K w x (cs.drop off) := by
  rwa [List.take_of_length_le (by simp; omega)] at h0
/-- A field's reading. -/
theorem field_at {α : Type} {d : Kd α} {t off s n : Nat} {cs : List Value} {y : Option (DataW H × List MemPlace)} (h : Opn enc P w base spare held t d) (hs : P.cellsOf t = s) (hy : ∃ z, y = some z)
    (hf : DataW.trod enc P w base spare held n t ((cs.drop off).take (P.cellsOf t)) = y) : ∃ a : α, d.K w a ((cs.drop off).take s) := by
  obtain ⟨z, rfl⟩ := hy
  subst hs
  exact h n _ _ hf
end

/-- A slice that came in. -/
theorem slice_in {H : Type} {enc : TypeId × Value → H} {P : Program} {w : World} {base : Nat} {spare : Nat → Bool} {held : Bool} {α : Type} {d : Kd α} {t e : TypeId} {a : Option Addr} {len cap : Nat} {D : DataW H} {p : List MemPlace}
    (h : Opn enc P w base spare held t (Kd.slice e d)) (hd : DataW.Trod enc P w base spare held t (.slice a len cap) D p) :
    ∃ l : List α, len = l.length ∧ l.length ≤ cap ∧ l.length ≤ 9223372036854775807 ∧ d.C w a l.length l := by
  obtain ⟨fuel, hf⟩ := hd
  obtain ⟨l, A, c, he, hl, hC⟩ := h fuel _ _ hf
  simp [Value.cells] at he
  obtain ⟨rfl, rfl, rfl⟩ := he
  exact ⟨l, rfl, hl, hC.2.1, hC⟩
/-- A struct that came in. -/
theorem struct_in {H : Type} {enc : TypeId × Value → H} {P : Program} {w : World} {base : Nat} {spare : Nat → Bool} {held : Bool} {α : Type} {d : Kd α} {t : TypeId} {cs : Array Value} {D : DataW H} {p : List MemPlace}
    (h : Opn enc P w base spare held t d) (hd : DataW.Trod enc P w base spare held t (.agg cs) D p) : ∃ x : α, d.K w x cs.toList := by
  obtain ⟨fuel, hf⟩ := hd
  exact h fuel _ _ hf
theorem agg_of {cs : Array Value} {l : List Value} (h : cs.toList = l) : cs = l.toArray := by rw [← h]
/-- An element of a row that is read. -/
theorem row_K {α : Type} {d : Kd α} {w : World} {A : Option Addr} {n : Nat} {xs : List α} (h : d.C w A n xs) {x : α} (hx : x ∈ xs) : ∃ cs, d.K w x cs := by
  obtain ⟨j, hj, rfl⟩ := List.mem_iff_getElem.mp hx
  obtain ⟨ad, _, hc⟩ := h.2.2 (by have := h.1; omega)
  obtain ⟨c, _, hr, _⟩ := hc j _ (List.getElem?_eq_getElem hj)
  exact ⟨c, hr⟩
end Go.Proofs.Ytaophbkedbphnab.Opens
end

section
/- Floats among the arguments, opened; no condition. -/
set_option linter.unusedVariables false
set_option linter.unusedSimpArgs false
namespace Go.Proofs.Ytaophbkedbphnab.Opens
open Go.RowKit Go.Proofs.YtaophbkedbphnabW.PrintWords Go.Proofs.YtaophbkedbphnabW.PrintFlt Go.Deep
section
variable {H : Type} {enc : TypeId × Value → H} {P : Program} {w : World} {base : Nat} {spare : Nat → Bool} {held : Bool} {t : TypeId}
theorem trod_flt {fuel : Nat} {cs : List Value} {x : DataW H × List MemPlace} {k : FloatKind} (ht : P.underlying t = some (.float k)) (h : DataW.trod enc P w base spare held fuel t cs = some x) : ∃ b, cs = [.float k b] := by
  cases fuel with
  | zero => simp [DataW.trod] at h
  | succ n =>
    unfold DataW.trod at h
    rw [ht] at h
    split at h <;> simp_all
theorem opn_float (ht : P.underlying t = some (.float .f64)) : Opn enc P w base spare held t Kd.flt := fun fuel cs x h => by
  obtain ⟨b, rfl⟩ := trod_flt ht h
  exact ⟨cn b, b, by rw [un_cn]⟩
end
end Go.Proofs.Ytaophbkedbphnab.Opens
end

section
/- The plain statement of the law FnExactSmooth: program and reference tell the same mean of every point of a grid and of those beside it, and hand back a list of their own; no condition. -/
set_option linter.unusedVariables false
set_option linter.unusedSectionVars false
set_option linter.unusedSimpArgs false
namespace Go.Proofs.Ytaophbkedbphnab.Pure
open Go.RowKit Go.Proofs.Ytaophbkedbphnab.Q Go.Proofs.Ytaophbkedbphnab.Gen Go.Proofs.YtaophbkedbphnabW.PrintWords Go.Proofs.YtaophbkedbphnabW.PrintMore Go.Proofs.YtaophbkedbphnabW.PrintFlt

theorem known_spec (x : Nat) : spec_Known.f x = some (fin x) := by
  unfold spec_Known.f
  rw [known1]
theorem known_impl (x : Nat) : impl_Known.f x = some (fin x) := by
  unfold impl_Known.f impl_missing.f math_IsInf.f math_Abs.f
  rw [← known2 x, Option.bind_some, fne_self]
  by_cases h : isn x = true
  · simp [h]
  · simp [h]

/-! two lists that differ in their missing values alone -/
def sameV (x y : Nat) : Prop := x = y ∨ (isn x = true ∧ isn y = true)
structure Rel (a b : List Nat) : Prop where
  len : a.length = b.length
  at_ : ∀ j, sameV (a.getD j 0) (b.getD j 0)
theorem rel_nil : Rel [] [] := ⟨rfl, fun _ => .inl rfl⟩
theorem rel_add {a b : List Nat} {x y : Nat} (h : Rel a b) (hx : sameV x y) : Rel (a ++ [x]) (b ++ [y]) := by
  refine ⟨by simp [h.len], fun j => ?_⟩
  have hl := h.len
  rw [List.getD_eq_getElem?_getD, List.getD_eq_getElem?_getD]
  by_cases c : j < a.length
  · have := h.at_ j
    rw [List.getElem?_append_left c, List.getElem?_append_left (by omega), ← List.getD_eq_getElem?_getD, ← List.getD_eq_getElem?_getD]
    exact this
  · rw [List.getElem?_append_right (by omega), List.getElem?_append_right (by omega), ← hl]
    cases j - a.length with
    | zero => exact hx
    | succ n => exact .inl rfl
theorem sameFloat_rel {x y : Nat} (h : sameV x y) : Ev (fun k => laws_sameFloat.f k y x) true := by
  rcases h with rfl | ⟨h1, h2⟩
  · exact sameFloat_ev _
  · simp only [laws_sameFloat.f]
    refine evPos (by rw [fne_self]; exact h2) ?_
    refine Ev_succ fun k => ?_
    simp only [laws_sameFloat.j0]
    rw [if_pos trivial, if_pos (by rw [fne_self]; exact h2), fne_self, h1]
theorem eq_rel {a b : List Nat} (h : Rel a b) (hl : a.length ≤ 1099511627776) : Ev (fun k => laws_eqFloat64S.f k b a) true := by
  have hlen := h.len
  simp only [laws_eqFloat64S.f]
  refine evPos (by omega) ?_
  refine scanE (fun k i => laws_eqFloat64S.l0 k b a i) b.length (fun _ => true) ?_ ?_ 0 (by omega)
  · intro j hj hn
    have u := up1 (j := j) (by omega)
    replace u := Aside0.mk u
    refine Ev.step (fun k => laws_eqFloat64S.l0.eq_2 _ _ _ k) (evPos (by omega) (evPos (by omega) (evPos (by omega) ?_)))
    have hs := sameFloat_rel (h.at_ j)
    refine Ev.bind (show Ev (fun k => laws_sameFloat.f k (rd_F b (j : Int)) (rd_F a (j : Int))) true from by simpa [rd_F] using hs) ?_
    rw [u.out]
    exact evPos rfl hn
  · exact Ev.step (fun k => laws_eqFloat64S.l0.eq_2 _ _ _ k) (evNeg (by omega) (Ev.now _))

theorem heldF_ev (n a : Nat) (h : n ≤ 1099511627776) (ha : a ≤ 1152921504606846976) : Ev (fun k => laws_heldFloat64S.f k (marksF64 a n) (a : Int)) ((a + n : Nat) : Int) := by
  simp only [laws_heldFloat64S.f]
  refine count (fun k i (s : Int) => laws_heldFloat64S.l0 k (marksF64 a n) s i) n (fun j => ((a + j : Nat) : Int)) ((a + n : Nat) : Int) ?_ ?_ 0 (by omega)
  · intro j hj
    refine ⟨0, fun k _ => ?_⟩
    simp only [laws_heldFloat64S.l0]
    have e : rd_F (marksF64 a n) (j : Int) = foi ((a + j : Nat) : Int) := by
      unfold rd_F
      rw [Int.toNat_natCast, marksF64_get _ _ _ hj]
    rw [if_pos (by rw [marksF64_length]; omega), if_pos (by omega), e, fne_self, isn_foi, if_neg (by decide), up1 (by omega), up1 (by omega)]
    rfl
  · refine Ev_succ (fun k => ?_)
    simp only [laws_heldFloat64S.l0]
    rw [if_neg (by rw [marksF64_length]; omega)]

/-! the mean of those that are known -/
def acc (s : Nat × Int) (x : Nat) : Nat × Int := if fin x = true then (fadd s.1 x, wrap64 (s.2 + 1)) else s
theorem sum_spec (l : List Nat) (hl : l.length ≤ 4000) : Ev (fun k => spec_Sum.f k l) (l.foldl acc (0, 0)) := by
  simp only [spec_Sum.f]
  refine evNeg (by omega) ?_
  have main : ∀ t j (s : Nat × Int), j + t = l.length → Ev (fun k => spec_Sum.l0 k l s.1 s.2 (j : Int)) ((l.drop j).foldl acc s) := by
    intro t
    induction t with
    | zero =>
      intro j s hj
      rw [List.drop_eq_nil_of_le (by omega)]
      exact Ev.step (fun k => spec_Sum.l0.eq_2 _ _ _ _ k) (evNeg (by omega) (Ev.now _))
    | succ t ih =>
      intro j s hj
      have u := up1 (j := j) (by omega)
      replace u := Aside0.mk u
      have e : rd_F l (j : Int) = l[j]'(by omega) := by simp [rd_F, List.getD_eq_getElem?_getD, show j < l.length by omega]
      rw [List.drop_eq_getElem_cons (by omega), List.foldl_cons, ← e]
      refine Ev.step (fun k => spec_Sum.l0.eq_2 _ _ _ _ k) (evPos (by omega) (evPos (by omega) ?_))
      simp only [known_spec, Option.bind_some]
      rw [u.out]
      by_cases c : fin (rd_F l (j : Int)) = true
      · have e2 : acc s (rd_F l (j : Int)) = (fadd s.1 (rd_F l (j : Int)), wrap64 (s.2 + 1)) := if_pos c
        rw [e2]; exact evPos c (ih (j + 1) (fadd s.1 (rd_F l (j : Int)), wrap64 (s.2 + 1)) (by omega))
      · have e2 : acc s (rd_F l (j : Int)) = s := if_neg c
        rw [e2]; exact evNeg c (ih (j + 1) _ (by omega))
  exact main l.length 0 (0, 0) (by omega)
theorem sum_impl (l : List Nat) (hl : l.length ≤ 4000) : Ev (fun k => impl_Sum.f k l) (l.foldl acc (0, 0)) := by
  simp only [impl_Sum.f]
  refine evNeg (by omega) ?_
  have main : ∀ t j (s : Nat × Int), j + t = l.length → Ev (fun k => impl_Sum.l0 k s.1 s.2 l (l.length : Int) (j : Int)) ((l.drop j).foldl acc s) := by
    intro t
    induction t with
    | zero =>
      intro j s hj
      rw [List.drop_eq_nil_of_le (by omega)]
      exact Ev.step (fun k => impl_Sum.l0.eq_2 _ _ _ _ _ k) (evNeg (by omega) (Ev.now _))
    | succ t ih =>
      intro j s hj
      have u := up1 (j := j) (by omega)
      replace u := Aside0.mk u
      have e : rd_F l (j : Int) = l[j]'(by omega) := by simp [rd_F, List.getD_eq_getElem?_getD, show j < l.length by omega]
      rw [List.drop_eq_getElem_cons (by omega), List.foldl_cons, ← e]
      refine Ev.step (fun k => impl_Sum.l0.eq_2 _ _ _ _ _ k) (evPos (by omega) (evPos (by omega) (evPos (by omega) ?_)))
      simp only [known_impl, Option.bind_some]
      rw [u.out]
      by_cases c : fin (rd_F l (j : Int)) = true
      · have e2 : acc s (rd_F l (j : Int)) = (fadd s.1 (rd_F l (j : Int)), wrap64 (s.2 + 1)) := if_pos c
        rw [e2]; exact evPos c (ih (j + 1) (fadd s.1 (rd_F l (j : Int)), wrap64 (s.2 + 1)) (by omega))
      · have e2 : acc s (rd_F l (j : Int)) = s := if_neg c
        rw [e2]; exact evNeg c (ih (j + 1) _ (by omega))
  exact main l.length 0 (0, 0) (by omega)
def meanP (p : Nat × Int) : Nat := if p.2 ≤ 0 then qnan else fdiv p.1 (foi p.2)
theorem mean_spec (l : List Nat) (hl : l.length ≤ 4000) : Ev (fun k => spec_Mean.f k l) (meanP (l.foldl acc (0, 0))) := by
  simp only [spec_Mean.f]
  refine Ev.bind (sum_spec l hl) ?_
  generalize l.foldl acc (0, 0) = p
  by_cases c : p.2 ≤ 0
  · rw [show meanP p = qnan from if_pos c]
    refine evPos c ?_
    rw [show spec_l1None.f = some qnan by decide +kernel]; exact Ev.now _
  · rw [show meanP p = fdiv p.1 (foi p.2) from if_neg c]
    exact evNeg c (Ev.now _)
theorem mean_impl (l : List Nat) (hl : l.length ≤ 4000) : Ev (fun k => impl_Mean.f k l) (meanP (l.foldl acc (0, 0))) := by
  simp only [impl_Mean.f]
  refine Ev.bind (sum_impl l hl) ?_
  generalize l.foldl acc (0, 0) = p
  by_cases c : p.2 ≤ 0
  · rw [show meanP p = qnan from if_pos c]
    exact evPos c (Ev.now _)
  · rw [show meanP p = fdiv p.1 (foi p.2) from if_neg c]
    exact evNeg c (Ev.now _)

theorem fold5 {P : Type} (f : P → Nat → P) (p : P) (x : Nat) {a b c d : Nat} {A B C D : List Nat} (h1 : ∀ p, f p a = A.foldl f p) (h2 : ∀ p, f p b = B.foldl f p) (h3 : ∀ p, f p c = C.foldl f p) (h4 : ∀ p, f p d = D.foldl f p) : [x, a, b, c, d].foldl f p = ([x] ++ A ++ B ++ C ++ D).foldl f p := by
  simp only [List.foldl_append, List.foldl_cons, List.foldl_nil, h1, h2, h3, h4]

/-! one grid -/
section
variable {l : List Nat} {R C : Nat} (S W s : Int) (hR1 : 2 ≤ R) (hR : R ≤ 64) (hC1 : 2 ≤ C) (hC : C ≤ 64) (hl : l.length = R * C)
include hR1 hR hC1 hC hl
omit hR1 hC1 in
theorem place {a b : Int} (ha : 0 ≤ a) (ha2 : a ≤ (R : Int) - 1) (hb : 0 ≤ b) (hb2 : b ≤ (C : Int) - 1) : 0 ≤ wrap64 (wrap64 (a * (C : Int)) + b) ∧ wrap64 (wrap64 (a * (C : Int)) + b) < (l.length : Int) := by
  obtain ⟨a, rfl⟩ := Int.eq_ofNat_of_zero_le ha
  obtain ⟨b, rfl⟩ := Int.eq_ofNat_of_zero_le hb
  have h1 : (a + 1) * C ≤ R * C := Nat.mul_le_mul_right C (by omega)
  have h2 : R * C ≤ 64 * 64 := Nat.mul_le_mul hR hC
  rw [Nat.add_mul] at h1
  rw [← Int.natCast_mul, hl]
  generalize a * C = q at h1 ⊢
  generalize R * C = n at h1 h2 ⊢
  rw [w64 (x := (q : Int)) (by omega) (by omega), w64 (by omega) (by omega)]
  omega
def inG (R C : Nat) (a b : Int) : Bool := inS a 0 ((R : Int) - 1) && inS b 0 ((C : Int) - 1)
/-- The value at a place; none where that is outside. -/
def nearV (l : List Nat) (R C : Nat) (a b : Int) : Nat := if inG R C a b = true then rd_F l (wrap64 (wrap64 (a * (C : Int)) + b)) else qnan
def nb (l : List Nat) (R C : Nat) (a b : Int) : List Nat := if inG R C a b = true then [rd_F l (wrap64 (wrap64 (a * (C : Int)) + b))] else []
theorem near_ev (a b : Int) : spec_l11Near.f (R : Int) (C : Int) S W s l a b = some (nearV l R C a b) := by
  have e1 : wrap64 ((R : Int) - 1) = (R : Int) - 1 := w64 (by omega) (by omega)
  have e2 : wrap64 ((C : Int) - 1) = (C : Int) - 1 := w64 (by omega) (by omega)
  unfold spec_l11Near.f nearV inG
  rw [e1, e2, l2In_s, l2In_s]
  have e3 : spec_l1None.f = some qnan := by decide +kernel
  rw [e3]
  simp only [Option.bind_some]
  by_cases c1 : inS a 0 ((R : Int) - 1) = true
  · by_cases c2 : inS b 0 ((C : Int) - 1) = true
    · have d1 := (inS_iff _ _ _).1 c1
      have d2 := (inS_iff _ _ _).1 c2
      obtain ⟨p1, p2⟩ := place hR hC hl d1.1 d1.2 d2.1 d2.2
      rw [if_pos c1, if_pos c2, if_pos p1, if_pos p2, if_pos (by rw [c1, c2]; rfl)]
    · rw [if_pos c1, if_neg c2, if_neg (by rw [Bool.not_eq_true] at c2; rw [c2, Bool.and_false]; decide)]
  · rw [if_neg c1, if_neg (by rw [Bool.not_eq_true] at c1; rw [c1, Bool.false_and]; decide)]
omit hR1 hR hC1 hC hl in
theorem near_acc (p : Nat × Int) (a b : Int) : acc p (nearV l R C a b) = (nb l R C a b).foldl acc p := by
  unfold nearV nb
  split
  · rfl
  · unfold acc
    rw [if_neg (by decide +kernel)]
    rfl

def dirs : List S68 := [(⟨0, 0⟩ : S68), (⟨1, 0⟩ : S68), (⟨0, 1⟩ : S68), (⟨(-1), 0⟩ : S68), (⟨0, (-1)⟩ : S68)]
theorem one_dir (x5 : List Nat) {i j : Nat} (hi : i < R) (hj : j < C) (q : Nat) (hq : q < 5) (d0 d1 : Int) (hd : rd_T68 dirs (q : Int) = ⟨d0, d1⟩) (h0 : -1 ≤ d0) (h1 : d0 ≤ 1) (h2 : -1 ≤ d1) (h3 : d1 ≤ 1) (A : List Nat) (hA : A.length ≤ 5) (X : List Nat)
    (h : Ev (fun k => impl_Smooth.l2 k l x5 (i : Int) (j : Int) (A ++ nb l R C ((i : Int) + d0) ((j : Int) + d1)) dirs 5 ((q + 1 : Nat) : Int) (R : Int) (C : Int) S W s) X) :
    Ev (fun k => impl_Smooth.l2 k l x5 (i : Int) (j : Int) A dirs 5 (q : Int) (R : Int) (C : Int) S W s) X := by
  have e1 : Aside0 (wrap64 ((R : Int) - 1) = (R : Int) - 1) := ⟨w64 (by omega) (by omega)⟩
  have e2 : Aside0 (wrap64 ((C : Int) - 1) = (C : Int) - 1) := ⟨w64 (by omega) (by omega)⟩
  have a1 : Aside0 (wrap64 ((i : Int) + d0) = (i : Int) + d0) := ⟨w64 (by omega) (by omega)⟩
  have a2 : Aside0 (wrap64 ((j : Int) + d1) = (j : Int) + d1) := ⟨w64 (by omega) (by omega)⟩
  have u := up1 (j := q) (by omega)
  replace u := Aside0.mk u
  refine Ev.step (fun k => impl_Smooth.l2.eq_2 _ _ _ _ _ _ _ _ _ _ _ _ _ k) (evPos (by omega) (evPos (by omega) (evPos (show (q : Int) < 5 by omega) ?_)))
  rw [hd]
  dsimp only
  rw [a1.out, a2.out, u.out, e1.out, e2.out]
  unfold nb inG at h
  simp only [in_s, Option.bind_some]
  by_cases c1 : inS ((i : Int) + d0) 0 ((R : Int) - 1) = true
  · by_cases c2 : inS ((j : Int) + d1) 0 ((C : Int) - 1) = true
    · have p1 := (inS_iff _ _ _).1 c1
      have p2 := (inS_iff _ _ _).1 c2
      obtain ⟨z1, z2⟩ := place hR hC hl p1.1 p1.2 p2.1 p2.2
      rw [if_pos (by rw [c1, c2]; rfl)] at h
      exact evPos c1 (evPos c2 (evPos z1 (evPos z2 (evPos (by omega) h))))
    · rw [if_neg (by rw [Bool.not_eq_true] at c2; rw [c2, Bool.and_false]; decide), List.append_nil] at h
      exact evPos c1 (evNeg c2 h)
  · rw [if_neg (by rw [Bool.not_eq_true] at c1; rw [c1, Bool.false_and]; decide), List.append_nil] at h
    exact evNeg c1 h
omit hR1 hR hC1 hC hl in
theorem nb_len (a b : Int) : (nb l R C a b).length ≤ 1 := by
  unfold nb
  split <;> simp

theorem both : ∀ t i (a b : List Nat), i + t = R → Rel a b → a.length + t * C ≤ 4096 → ∃ ra rb, Ev (fun k => spec_Smooth.l0 k l a (i : Int) (R : Int) (C : Int) S W s) ra ∧ Ev (fun k => impl_Smooth.l0 k l b (i : Int) (R : Int) (C : Int) S W s) rb ∧ Rel ra rb ∧ ra.length ≤ 4096 := by
  intro t
  induction t with
  | zero =>
    intro i a b hi hr hx
    exact ⟨a, b, Ev.step (fun k => spec_Smooth.l0.eq_2 _ _ _ _ _ _ _ _ k) (evNeg (by omega) (Ev.now _)), Ev.step (fun k => impl_Smooth.l0.eq_2 _ _ _ _ _ _ _ _ k) (evNeg (by omega) (Ev.now _)), hr, by omega⟩
  | succ t ih =>
    intro i a b hi hr hx
    rw [Nat.succ_mul] at hx
    have row : ∀ v j (a b : List Nat), j + v = C → Rel a b → a.length + v + t * C ≤ 4096 → ∃ ra rb, Ev (fun k => spec_Smooth.l1 k l a (i : Int) (j : Int) (R : Int) (C : Int) S W s) ra ∧ Ev (fun k => impl_Smooth.l1 k l b (i : Int) (j : Int) (R : Int) (C : Int) S W s) rb ∧ Rel ra rb ∧ ra.length ≤ 4096 := by
      have ui := up1 (j := i) (by omega)
      replace ui := Aside0.mk ui
      intro v
      induction v with
      | zero =>
        intro j a b hj hr hx
        obtain ⟨ra, rb, h1, h2, h3, h4⟩ := ih (i + 1) a b (by omega) hr (by omega)
        refine ⟨ra, rb, Ev.step (fun k => spec_Smooth.l1.eq_2 _ _ _ _ _ _ _ _ _ k) (evNeg (by omega) ?_), Ev.step (fun k => impl_Smooth.l1.eq_2 _ _ _ _ _ _ _ _ _ k) (evNeg (by omega) ?_), h3, h4⟩
        · rw [ui.out]; exact h1
        · rw [ui.out]; exact h2
      | succ v ihv =>
        intro j a b hj hr hx
        have hlen := hr.len
        have uj := up1 (j := j) (by omega)
        replace uj := Aside0.mk uj
        have d1 : Aside0 (wrap64 ((i : Int) - 1) = (i : Int) + -1) := ⟨by rw [w64 (by omega) (by omega)]; omega⟩
        have d2 : Aside0 (wrap64 ((j : Int) - 1) = (j : Int) + -1) := ⟨by rw [w64 (by omega) (by omega)]; omega⟩
        obtain ⟨p1, p2⟩ := place hR hC hl (a := (i : Int)) (b := (j : Int)) (by omega) (by omega) (by omega) (by omega)
        replace p1 := Aside0.mk p1
        replace p2 := Aside0.mk p2
        by_cases c : isn (rd_F l (wrap64 (wrap64 ((i : Int) * (C : Int)) + (j : Int)))) = true
        · obtain ⟨ra, rb, h1, h2, h3, h4⟩ := ihv (j + 1) _ _ (by omega) (rel_add hr (.inr ⟨c, show isn qnan = true by decide +kernel⟩)) (by simp; omega)
          refine ⟨ra, rb, Ev.step (fun k => spec_Smooth.l1.eq_2 _ _ _ _ _ _ _ _ _ k) (evPos (by omega) (evPos p1.out (evPos p2.out (evNeg (by rw [feq_self, c]; decide) (evPos (by omega) ?_))))), Ev.step (fun k => impl_Smooth.l1.eq_2 _ _ _ _ _ _ _ _ _ k) (evPos (by omega) (evPos p1.out (evPos p2.out ?_))), h3, h4⟩
          · rw [uj.out]; exact h1
          · simp only [impl_missing.f, impl_nan.f, math_NaN.f, Option.bind_some]
            refine evPos (by rw [fne_self]; exact c) (evPos (by omega) ?_)
            rw [uj.out]; exact h2
        · rw [Bool.not_eq_true] at c
          generalize hx0 : rd_F l (wrap64 (wrap64 ((i : Int) * (C : Int)) + (j : Int))) = x0 at c
          have n0 : nb l R C (i : Int) (j : Int) = [x0] := by
            unfold nb inG
            rw [if_pos, hx0]
            rw [(inS_iff _ _ _).2 ⟨by omega, by omega⟩, (inS_iff _ _ _).2 ⟨by omega, by omega⟩]; rfl
          generalize hN : [x0] ++ nb l R C ((i + 1 : Nat) : Int) (j : Int) ++ nb l R C (i : Int) ((j + 1 : Nat) : Int) ++ nb l R C ((i : Int) + -1) (j : Int) ++ nb l R C (i : Int) ((j : Int) + -1) = N
          have hm : meanP ([x0, nearV l R C ((i + 1 : Nat) : Int) (j : Int), nearV l R C (i : Int) ((j + 1 : Nat) : Int), nearV l R C ((i : Int) + -1) (j : Int), nearV l R C (i : Int) ((j : Int) + -1)].foldl acc (0, 0)) = meanP (N.foldl acc (0, 0)) := by
            rw [← hN]
            exact congrArg meanP (fold5 acc (0, 0) x0 (fun p => near_acc p _ _) (fun p => near_acc p _ _) (fun p => near_acc p _ _) (fun p => near_acc p _ _))
          have hNl : N.length ≤ 4000 := by
            rw [← hN]
            simp only [List.length_append, List.length_singleton]
            have q1 := nb_len (l := l) (R := R) (C := C) ((i + 1 : Nat) : Int) (j : Int)
            have q2 := nb_len (l := l) (R := R) (C := C) (i : Int) ((j + 1 : Nat) : Int)
            have q3 := nb_len (l := l) (R := R) (C := C) ((i : Int) + -1) (j : Int)
            have q4 := nb_len (l := l) (R := R) (C := C) (i : Int) ((j : Int) + -1)
            omega
          have ms := mean_spec [x0, nearV l R C ((i + 1 : Nat) : Int) (j : Int), nearV l R C (i : Int) ((j + 1 : Nat) : Int), nearV l R C ((i : Int) + -1) (j : Int), nearV l R C (i : Int) ((j : Int) + -1)] (by simp)
          have mi := mean_impl N hNl
          rw [hm] at ms
          generalize meanP (N.foldl acc (0, 0)) = m at ms mi
          obtain ⟨ra, rb, h1, h2, h3, h4⟩ := ihv (j + 1) _ _ (by omega) (rel_add hr (.inl (rfl : m = m))) (by simp; omega)
          refine ⟨ra, rb, Ev.step (fun k => spec_Smooth.l1.eq_2 _ _ _ _ _ _ _ _ _ k) (evPos (by omega) (evPos p1.out (evPos p2.out ?_))), Ev.step (fun k => impl_Smooth.l1.eq_2 _ _ _ _ _ _ _ _ _ k) (evPos (by omega) (evPos p1.out (evPos p2.out ?_))), h3, h4⟩
          · rw [hx0]
            refine evPos (by rw [feq_self, c]; rfl) ?_
            rw [ui.out, uj.out, d1.out, d2.out]
            simp only [near_ev S W s hR1 hR hC1 hC hl, Option.bind_some]
            refine Ev.bind ms (evPos (by omega) ?_)
            exact h1
          · rw [hx0]
            simp only [impl_missing.f, Option.bind_some]
            refine evNeg (by rw [fne_self, c]; decide) ?_
            show Ev (fun k => impl_Smooth.l2 k l b (i : Int) (j : Int) [] dirs 5 ((0 : Nat) : Int) (R : Int) (C : Int) S W s) rb
            have L : ∀ a1 b1 a2 b2 a3 b3 a4 b4 : Int, ([x0] ++ nb l R C a1 b1 ++ nb l R C a2 b2 ++ nb l R C a3 b3).length ≤ 5 ∧ ([x0] ++ nb l R C a1 b1 ++ nb l R C a2 b2).length ≤ 5 ∧ ([x0] ++ nb l R C a1 b1).length ≤ 5 := fun a1 b1 a2 b2 a3 b3 a4 b4 => by
              simp only [List.length_append, List.length_singleton]
              have q1 := nb_len (l := l) (R := R) (C := C) a1 b1
              have q2 := nb_len (l := l) (R := R) (C := C) a2 b2
              have q3 := nb_len (l := l) (R := R) (C := C) a3 b3
              omega
            refine one_dir S W s hR1 hR hC1 hC hl b (by omega) (by omega) 0 (by omega) 0 0 rfl (by omega) (by omega) (by omega) (by omega) [] (by simp) rb ?_
            rw [Int.add_zero, Int.add_zero, n0, List.nil_append]
            refine one_dir S W s hR1 hR hC1 hC hl b (by omega) (by omega) 1 (by omega) 1 0 rfl (by omega) (by omega) (by omega) (by omega) _ (by simp) rb ?_
            rw [Int.add_zero, show (i : Int) + 1 = ((i + 1 : Nat) : Int) by omega]
            refine one_dir S W s hR1 hR hC1 hC hl b (by omega) (by omega) 2 (by omega) 0 1 rfl (by omega) (by omega) (by omega) (by omega) _ (L _ _ 0 0 0 0 0 0).2.2 rb ?_
            rw [Int.add_zero, show (j : Int) + 1 = ((j + 1 : Nat) : Int) by omega]
            refine one_dir S W s hR1 hR hC1 hC hl b (by omega) (by omega) 3 (by omega) (-1) 0 rfl (by omega) (by omega) (by omega) (by omega) _ (L _ _ _ _ 0 0 0 0).2.1 rb ?_
            rw [Int.add_zero]
            refine one_dir S W s hR1 hR hC1 hC hl b (by omega) (by omega) 4 (by omega) 0 (-1) rfl (by omega) (by omega) (by omega) (by omega) _ (L _ _ _ _ _ _ 0 0).1 rb ?_
            rw [Int.add_zero, hN]
            refine Ev.step (fun k => impl_Smooth.l2.eq_2 _ _ _ _ _ _ _ _ _ _ _ _ _ k) (evNeg (by omega) (Ev.bind mi (evPos (by omega) ?_)))
            rw [uj.out]
            exact h2
    obtain ⟨ra, rb, h1, h2, h3, h4⟩ := row C 0 a b (by omega) hr (by omega)
    exact ⟨ra, rb, Ev.step (fun k => spec_Smooth.l0.eq_2 _ _ _ _ _ _ _ _ k) (evPos (by omega) h1), Ev.step (fun k => impl_Smooth.l0.eq_2 _ _ _ _ _ _ _ _ k) (evPos (by omega) h2), h3, h4⟩
end

theorem smooth_both (R C S W s : Int) (l : List Nat) (hl : l.length ≤ 1048576) : ∃ ra rb : List Nat, Ev (fun k => spec_Smooth.f k R C S W s l) ra ∧ Ev (fun k => impl_Smooth.f k R C S W s l) rb ∧ Rel ra rb ∧ ra.length ≤ 4096 := by
  have hg : impl_GridOk.f R C S W s = spec_GridOk.f R C S W s := by
    simp only [impl_GridOk.f, spec_GridOk.f, l2In_s, in_s]
  obtain ⟨g, hgo, hgt⟩ : ∃ g : Bool, spec_GridOk.f R C S W s = some g ∧ (g = true → (2 ≤ R ∧ R ≤ 64) ∧ (2 ≤ C ∧ C ≤ 64)) := by
    simp only [spec_GridOk.f, l2In_s, Option.bind_some]
    by_cases c1 : inS R 2 64 = true
    rotate_left
    · exact ⟨false, if_neg c1, fun h => by cases h⟩
    by_cases c2 : inS C 2 64 = true
    rotate_left
    · exact ⟨false, by rw [if_pos c1, if_neg c2], fun h => by cases h⟩
    rw [if_pos c1, if_pos c2]
    have d1 := (inS_iff _ _ _).1 c1
    have d2 := (inS_iff _ _ _).1 c2
    refine (?_ : ∃ g : Bool, _ = some g).imp fun g h => ⟨h, fun _ => ⟨d1, d2⟩⟩
    split
    · split
      · split
        · exact ⟨_, rfl⟩
        · exact ⟨_, rfl⟩
      · exact ⟨_, rfl⟩
    · exact ⟨_, rfl⟩
  simp only [spec_Smooth.f, impl_Smooth.f, spec_l11Right.f, impl_fits.f, hg, hgo, Option.bind_some]
  cases g with
  | false =>
    simp only [Bool.false_eq_true, if_false, Option.bind_some]
    exact ⟨[], [], Ev.now _, Ev.now _, rel_nil, Nat.zero_le _⟩
  | true =>
    obtain ⟨⟨r1, r2⟩, c1, c2⟩ := hgt rfl
    obtain ⟨R, rfl⟩ := Int.eq_ofNat_of_zero_le (show 0 ≤ R by omega)
    obtain ⟨C, rfl⟩ := Int.eq_ofNat_of_zero_le (show 0 ≤ C by omega)
    have hm : R * C ≤ 64 * 64 := Nat.mul_le_mul (by omega) (by omega)
    have e : wrap64 ((R : Int) * (C : Int)) = ((R * C : Nat) : Int) := by
      rw [← Int.natCast_mul]
      exact w64 (by omega) (by omega)
    by_cases c : ((l.length : Int) == ((R * C : Nat) : Int)) = true
    · have hn : l.length = R * C := by
        rw [beq_iff_eq] at c
        omega
      obtain ⟨ra, rb, h1, h2, h3, h4⟩ := both S W s (by omega) (by omega) (by omega) (by omega) hn R 0 [] [] (by omega) rel_nil (by simpa using hm)
      exact ⟨ra, rb, Ev.bind (evPos rfl (Ev.now _)) (evPos (by rw [e]; exact c) h1), Ev.bind (evPos rfl (Ev.now _)) (evPos (by rw [e]; exact c) h2), h3, h4⟩
    · exact ⟨[], [], Ev.bind (evPos rfl (Ev.now _)) (evNeg (by rw [e]; exact c) (Ev.now _)), Ev.bind (evPos rfl (Ev.now _)) (evNeg (by rw [e]; exact c) (Ev.now _)), rel_nil, Nat.zero_le _⟩

theorem FnExactSmooth : laws_FnExactSmooth.Pure := by
  intro R C S W s l _
  refine Ev.rounds ?_
  simp only [laws_FnExactSmooth.f, laws_toGrid.f, Option.bind_some]
  by_cases hl : l.length ≤ 1048576
  rotate_left
  · exact evPos (by omega) (Ev.now _)
  obtain ⟨ra, rb, hs, hi, hr, h4⟩ := smooth_both R C S W s l hl
  have hlen := hr.len
  have E := eq_rel hr (by omega)
  refine evNeg (by omega) ?_
  refine Ev.bind (toFloat64S_ev _ (by omega)) ?_
  refine Ev.bind hs ?_
  refine Ev.bind (toFloat64S_ev _ (by omega)) ?_
  refine Ev.bind hi ?_
  refine Ev.bind E (evPos rfl ?_)
  refine Ev.bind (toFloat64S_ev _ (by omega)) ?_
  refine Ev.bind (eqFloat64S_ev _ (by omega)) (evPos rfl ?_)
  refine Ev.bind (markFloat64S_ev l 1 (by omega) (by omega)) (evNeg (by omega) ?_)
  refine Ev.bind E ?_
  refine Ev.step (fun k => laws_FnExactSmooth.j0.eq_2 _ _ _ _ _ _ _ _ _ k) (evNeg (by decide) ?_)
  refine Ev.bind (markFloat64S_ev rb 1 (by omega) (by omega)) ?_
  refine Ev.bind (heldF_ev rb.length 1 (by omega) (by omega)) (evNeg (by omega) (evPos rfl ?_))
  simp only [laws_toGrid.f, Option.bind_some]
  refine Ev.bind (toFloat64S_ev _ (by omega)) ?_
  refine Ev.bind hi ?_
  refine Ev.bind E (evPos rfl ?_)
  exact Ev.bind (heldF_ev rb.length 1 (by omega) (by omega)) (evNeg (by omega) (evPos rfl (Ev.now _)))
end Go.Proofs.Ytaophbkedbphnab.Pure
end

section
/- The law FnExactSmooth of this seat holds for all arguments: the row, out of its plain statement and the contract of its Go function; no condition. -/
namespace Go.Proofs.Ytaophbkedbphnab.fnExactSmooth
open Go.ChangeShapes Go.WideShapes Go.ChangeAt Go.RowKit Go.Proofs.Ytaophbkedbphnab.Opens Go.Proofs.Ytaophbkedbphnab.Q Go.Proofs.YtaophbkedbphnabW.PrintWords Go.Proofs.YtaophbkedbphnabW.PrintFlt
open Go.ChangeMaps (open_string shut_string)
set_option linter.unusedVariables false
theorem own : ownKnob Try.prog.godebug = none := by kernel_rfl
theorem laidOut : laidOutB Try.prog = true := by kernel_rfl
theorem opn23 {H : Type} {enc : TypeId × Value → H} {w : World} {base : Nat} {spare : Nat → Bool} {held : Bool} : Opn enc Try.prog w base spare held 23 k23 := by
  intro fuel cs x h
  obtain ⟨xs, n, _, _, hl, hlen, hf⟩ := DataW.trod_struct Try.underlying23 h
  have hs : ∀ i, i < 5 → ∃ z, xs[i]? = some z := fun i hi => ⟨xs[i]'(by rw [hlen]; exact hi), List.getElem?_eq_getElem _⟩
  rw [show Try.prog.cellsOf 23 = 5 from by kernel_rfl] at hl
  obtain ⟨a0, h0⟩ := field_at (off := 0) (s := 1) (opn_int Try.underlying2) (by kernel_rfl) (hs 0 (by decide)) (hf 0 _ rfl)
  obtain ⟨a1, h1⟩ := field_at (off := 1) (s := 1) (opn_int Try.underlying2) (by kernel_rfl) (hs 1 (by decide)) (hf 1 _ rfl)
  obtain ⟨a2, h2⟩ := field_at (off := 2) (s := 1) (opn_int Try.underlying2) (by kernel_rfl) (hs 2 (by decide)) (hf 2 _ rfl)
  obtain ⟨a3, h3⟩ := field_at (off := 3) (s := 1) (opn_int Try.underlying2) (by kernel_rfl) (hs 3 (by decide)) (hf 3 _ rfl)
  obtain ⟨a4, h4⟩ := field_at (off := 4) (s := 1) (opn_int Try.underlying2) (by kernel_rfl) (hs 4 (by decide)) (hf 4 _ rfl)
  exact ⟨⟨a0, a1, a2, a3, a4⟩, (pair_at 0 1 h0 (pair_at 1 1 h1 (pair_at 2 1 h2 (pair_at 3 1 h3 (last_at 4 1 hl h4)))))⟩
set_option maxRecDepth 100000 in
theorem lifted (os : Os) (started : os.Started) (H : Type) (enc : TypeId × Value → H) :
    ReturnsInHanded {} Try.checked os 3 .any (Rows.fnExactSmoothSpec.pre6 enc Try.prog Try.f3 Rows.fnExactSmoothRow.domain false) (Rows.fnExactSmoothSpec.post enc Try.prog Try.f3 false true false false) := by
  refine returnsInHanded_of_change_sized (C := Try.checked) own started (by kernel_rfl) Try.func3
    (ChangeSpec.witness6 (enc := enc) (C := Try.checked) false ⟨#[], #[.agg #[.int .i64 0, .int .i64 0, .int .i64 0, .int .i64 0, .int .i64 0], .slice none 0 0], []⟩ 8 (by kernel_rfl) (by kernel_rfl) (by kernel_rfl) (by kernel_rfl)) ?_
  intro W base args ds gs before hval0 hW hcnd hsz0 _
  have hsz : (DataW.weightsEach Try.prog (Try.f3.params.toList ++ Rows.fnExactSmoothSpec.plain.varTypes Try.prog) (ds ++ gs)).all (· ≤ reachBytes) = true := hsz0
  have hval : ∀ (j : Nat) t v, Try.f3.params[j]? = some t → args[j]? = some v → Value.okWide Try.prog W .any base t v := hval0
  have hW' := hW
  obtain ⟨p, q, hA0, hV, rfl, hfz, hnd⟩ := hW
  have hA : DataW.TrodAll enc Try.prog W 0 (fun _ => true) true Try.f3.params.toList args.toList ds p := hA0
  rw [Try.params3] at hA hval hsz
  obtain ⟨v0, vs0, d0, ds0, p0, q0, hargs, rfl, rfl, h0, r0⟩ := trodAll_cons hA
  obtain ⟨v1, vs1, d1, ds1, p1, q1, rfl, rfl, rfl, h1, r1⟩ := trodAll_cons r0
  obtain ⟨rfl, rfl, rfl⟩ := trodAll_nil r1
  obtain rfl : args = #[v0, v1] := by cases args; simp_all
  obtain ⟨rfl, rfl⟩ := trodVars_none hV
  obtain ⟨cs0, rfl, _⟩ := okWide_struct Try.underlying23 (hval 0 23 v0 rfl rfl)
  have k0 := h0
  have lt0 : ∀ x ∈ p0, x.block < W.heap.size := by obtain ⟨m, hm⟩ := k0; exact DataW.trod_lt m _ _ _ hm
  obtain ⟨x0, hK0⟩ := struct_in opn23 h0
  have e0 := k23_open hK0
  obtain rfl := agg_of e0
  obtain ⟨a1, len1, cap1, rfl⟩ := okWide_slice Try.underlying24 (hval 1 24 v1 rfl rfl)
  have k1 := h1
  have lt1 : ∀ x ∈ p1, x.block < W.heap.size := by obtain ⟨m, hm⟩ := k1; exact DataW.trod_lt m _ _ _ hm
  obtain ⟨l1, e1, hc1, hm1, hr1⟩ := slice_in (opn_slice (0 : Nat) Try.underlying24 (by kernel_rfl) (opn_float Try.underlying34)) h1
  subst e1
  clear hA0 hval0 hsz0 hsz
  obtain ⟨k, hk⟩ := Pure.FnExactSmooth x0.f0 x0.f1 x0.f2 x0.f3 x0.f4 l1 hm1
  refine (laws_FnExactSmooth.calls k x0.f0 x0.f1 x0.f2 x0.f3 x0.f4 _ _ l1 true W hr1 hc1 hk).mono fun e W' hp_ => ?_
  obtain ⟨rfl, hb_⟩ := hp_
  have bel : Below W.heap.size W W' := hb_
  exact ⟨_, rfl, _, _, _, [], _, [], hW', trodAll_mk1 (shut_bool Try.underlying4 _), (trodAll_cons_mk (Below.trod laidOut (by kernel_rfl) (of_decide_eq_true (by kernel_rfl)) k0 bel lt0) (trodAll_cons_mk (Below.trod laidOut (by kernel_rfl) (of_decide_eq_true (by kernel_rfl)) k1 bel lt1) trodAll_mk0)), rfl, bel.frame _, fun h => by cases h⟩
theorem over : Rows.fnExactSmoothRow.holds Try.pinned (OpenSpec.ofChange Rows.fnExactSmoothSpec) :=
  OpenClaim.holds_of_wide 3 Try.f3 rfl rfl rfl rfl rfl rfl rfl ⟨rfl, rfl, rfl, rfl, rfl⟩ rfl rfl rfl rfl rfl (by kernel_rfl) Try.func3 (by kernel_rfl)
    (of_decide_eq_true (by kernel_rfl)) (by unfold Func.isWrapper; first | (rw [if_pos (by decide +kernel)]; kernel_rfl) | (rw [if_neg (by decide +kernel)]; exact ⟨rfl, rfl⟩))
    (fun os started H enc _ => lifted os started H enc)
theorem proved : Rows.FnExactSmoothSaid := over
end Go.Proofs.Ytaophbkedbphnab.fnExactSmooth
namespace Go.Proofs.Ytaophbkedbphnab
/-- The row, under a short name, for the claim. -/
theorem fnExactSmooth_holds : Rows.FnExactSmoothSaid := fnExactSmooth.proved
#print axioms fnExactSmooth_holds
end Go.Proofs.Ytaophbkedbphnab
end
