/- Plain facts on floats told by their worth: what equals itself, what is no NaN. -/
import Derived.Test.YtcdghhihfjojaaaFlt
import Derived.Test.YtcdghhihfjojaaaGen
set_option linter.unusedVariables false
set_option linter.unusedSimpArgs false
namespace Go.Proofs.Ytcdghhihfjojaaa.Gen
open Go.RowKit Go.Proofs.YtcdghhihfjojaaaW.PrintWords Go.Proofs.YtcdghhihfjojaaaW.PrintFlt

theorem fne_eq (x y : Nat) : fne x y = !feq x y := rfl
theorem order_self (d : Ieee.Datum) (h : d.isNaN = false) : d.order d = some .eq := by
  cases d with
  | number s m e =>
    simp only [Ieee.Datum.order, Option.some.injEq]
    exact Std.ReflCmp.compare_self
  | infinity s => cases s <;> rfl
  | nan s f => simp [Ieee.Datum.isNaN] at h
theorem feq_self (x : Nat) : feq x x = !isn x := by
  unfold feq isn Ieee.Format.order
  cases h : (Ieee.double.read x).isNaN with
  | false => rw [order_self _ h]; rfl
  | true =>
    obtain ⟨s, f, e⟩ := read_nan (b := x) h
    rw [e]
    rfl
theorem fne_self (x : Nat) : fne x x = isn x := by rw [fne_eq, feq_self, Bool.not_not]
theorem isn_word (s : Bool) (r : Nat) (h : r ≤ Ieee.double.infRung) : isn (Ieee.double.word s r) = false := by
  have h1 : Ieee.double.signWeight = 2 ^ 63 := by decide
  have h2 : Ieee.double.binade = 2 ^ 52 := by decide
  have h3 : Ieee.double.infRung = 0x7ff0000000000000 := by decide +kernel
  rw [h3] at h
  have hm : Ieee.double.word s r % 2 ^ 63 = r := by
    unfold Ieee.Format.word
    rw [h1]
    cases s <;> simp <;> omega
  unfold isn Ieee.Format.read
  simp only [h1, h2, h3, hm]
  split
  · rfl
  · split
    · rfl
    · rw [if_pos (by omega)]
      rfl
theorem isn_nearest (s : Bool) (m : Nat) (p : Int) : isn (Ieee.double.nearest s m p) = false := by
  unfold Ieee.Format.nearest
  dsimp only
  split
  · exact isn_word _ _ (Nat.zero_le _)
  · exact isn_word _ _ (Nat.min_le_right ..)
theorem isn_foi (n : Int) : isn (foi n) = false := isn_nearest _ _ _
theorem isn_write (d : Ieee.Datum) (h : d.isNaN = false) : isn (Ieee.double.write d) = false := by
  cases d with
  | number s m e => exact isn_nearest _ _ _
  | infinity s => exact isn_word _ _ (Nat.le_refl _)
  | nan s f => simp [Ieee.Datum.isNaN] at h
/-- Is it a number? -/
def fin (x : Nat) : Bool := match Ieee.double.read x with
  | .number .. => true
  | _ => false
theorem sub_self (d : Ieee.Datum) : (d.sum d.opposite).map Ieee.double.write = match d with
    | .number .. => some 0
    | _ => none := by
  cases d with
  | number s m e =>
    have h0 : ∀ u, Ieee.signed s m u + Ieee.signed (!s) m u = 0 := by
      intro u
      unfold Ieee.signed
      cases s <;> simp <;> omega
    simp only [Ieee.Datum.opposite, Ieee.Datum.sum, h0, if_true]
    have : (s && !s) = false := by cases s <;> rfl
    simp only [this, Int.natAbs_zero, Option.map_some, Ieee.Format.write, Ieee.Format.nearest, if_true]
    rfl
  | infinity s => cases s <;> rfl
  | nan s f => rfl
theorem known1 (x : Nat) : feq (fsub x x) 0 = fin x := by
  unfold fsub Ieee.Format.sub fin
  rw [sub_self]
  cases h : Ieee.double.read x with
  | number s m e => exact (by decide +kernel : feq 0 0 = true)
  | infinity s => exact (by decide +kernel : feq qnan 0 = false)
  | nan s f => exact (by decide +kernel : feq qnan 0 = false)
theorem read_mod (x : Nat) : Ieee.double.read (x % 9223372036854775808) = match Ieee.double.read x with
    | .number _ m e => .number false m e
    | .infinity _ => .infinity false
    | .nan _ f => .nan false f := by
  have h1 : Ieee.double.signWeight = 9223372036854775808 := by decide +kernel
  have h2 : (x % 9223372036854775808) / 9223372036854775808 % 2 = 0 := by omega
  unfold Ieee.Format.read
  simp only [h1, Nat.mod_mod, h2]
  by_cases c1 : x % 9223372036854775808 < Ieee.double.binade
  · simp only [c1, if_true]; rfl
  · by_cases c2 : x % 9223372036854775808 < Ieee.double.infRung
    · simp only [c1, c2, if_true, if_false]; rfl
    · by_cases c3 : x % 9223372036854775808 = Ieee.double.infRung
      · simp only [c1, c2, c3, if_true, if_false]; rfl
      · simp only [c1, c2, c3, if_false]; rfl
theorem read_bound {x : Nat} {s : Bool} {m : Nat} {e : Int} (h : Ieee.double.read x = .number s m e) : m ≤ 9007199254740991 ∧ -1074 ≤ e ∧ e ≤ 971 := by
  have h1 : Ieee.double.signWeight = 9223372036854775808 := by decide +kernel
  have h2 : Ieee.double.binade = 4503599627370496 := by decide +kernel
  have h3 : Ieee.double.infRung = 9218868437227405312 := by decide +kernel
  have h4 : Ieee.double.leastPlace = -1074 := by decide +kernel
  unfold Ieee.Format.read at h
  simp only [h1, h2, h3, h4] at h
  split at h
  · injection h with _ hm he
    omega
  · split at h
    · injection h with _ hm he
      omega
    · split at h <;> cases h
theorem known2 (x : Nat) : (!isn x && !fgt (fabs x) 9218868437227405311) = fin x := by
  unfold fabs fin
  cases h : Ieee.double.read x with
  | number s m e =>
    have hn : isn x = false := by unfold isn; rw [h]; rfl
    have hm : Ieee.double.read 9218868437227405311 = .number false 9007199254740991 971 := by decide +kernel
    obtain ⟨b1, b2, b3⟩ := read_bound h
    have hg : fgt (x % 9223372036854775808) 9218868437227405311 = false := by
      unfold fgt Ieee.Format.order
      rw [read_mod, h, hm]
      simp only [Ieee.Datum.order]
      have hmin : min e 971 = e := by omega
      rw [hmin]
      have ha : Ieee.signed false m (e - e).toNat = (m : Int) := by simp [Ieee.signed]
      have hb : (m : Int) ≤ Ieee.signed false 9007199254740991 (971 - e).toNat := by
        simp only [Ieee.signed, Bool.false_eq_true, if_false, Nat.shiftLeft_eq]
        have h2 : 1 ≤ 2 ^ (971 - e).toNat := Nat.one_le_two_pow
        have := Nat.mul_le_mul (Nat.le_refl 9007199254740991) h2
        omega
      rw [ha]
      generalize Ieee.signed false 9007199254740991 (971 - e).toNat = q at hb
      have : compare (m : Int) q ≠ .gt := by
        intro hc
        have := Int.compare_eq_gt.mp hc
        omega
      cases hc : compare (m : Int) q with
      | gt => exact absurd hc this
      | lt => rfl
      | eq => rfl
    rw [hn, if_neg (by decide), hg]
    rfl
  | infinity s =>
    have hn : isn x = false := by unfold isn; rw [h]; rfl
    have hm : Ieee.double.read 9218868437227405311 = .number false 9007199254740991 971 := by decide +kernel
    have hg : fgt (x % 9223372036854775808) 9218868437227405311 = true := by
      unfold fgt Ieee.Format.order
      rw [read_mod, h, hm]
      rfl
    rw [hn, if_neg (by decide), hg]
    rfl
  | nan s f =>
    have hn : isn x = true := by unfold isn; rw [h]; rfl
    rw [hn]
    rfl
theorem fin_isn {x : Nat} (h : fin x = true) : isn x = false := by
  unfold fin at h
  unfold isn
  split at h
  · rename_i e; rw [e]; rfl
  · cases h
end Go.Proofs.Ytcdghhihfjojaaa.Gen
