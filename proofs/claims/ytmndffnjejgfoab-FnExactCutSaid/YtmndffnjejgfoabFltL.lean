/- Plain facts on floats told by their worth: what equals itself, what is no NaN. -/
import Derived.Test.YtmndffnjejgfoabFlt
import Derived.Test.YtmndffnjejgfoabGen
set_option linter.unusedVariables false
set_option linter.unusedSimpArgs false
namespace Go.Proofs.Ytmndffnjejgfoab.Gen
open Go.RowKit Go.Proofs.YtmndffnjejgfoabW.PrintWords Go.Proofs.YtmndffnjejgfoabW.PrintFlt

theorem fne_eq (x y : Nat) : fne x y = !feq x y := rfl
theorem order_self (d : Ieee.Datum) (h : d.isNaN = false) : d.order d = some .eq := by
  cases d with
  | number s m e =>
    simp only [Ieee.Datum.order, Option.some.injEq]
    exact Std.ReflCmp.compare_self
  | infinity s => cases s <;> rfl
  | nan s f => simp [Ieee.Datum.isNaN] at h
theorem feq_self (x : Nat) : feq x x = !isn x := by
  unfold feq isn Ieee.Format.order
  cases h : (Ieee.double.read x).isNaN with
  | false => rw [order_self _ h]; rfl
  | true =>
    obtain ⟨s, f, e⟩ := read_nan (b := x) h
    rw [e]
    rfl
theorem fne_self (x : Nat) : fne x x = isn x := by rw [fne_eq, feq_self, Bool.not_not]
theorem isn_word (s : Bool) (r : Nat) (h : r ≤ Ieee.double.infRung) : isn (Ieee.double.word s r) = false := by
  have h1 : Ieee.double.signWeight = 2 ^ 63 := by decide
  have h2 : Ieee.double.binade = 2 ^ 52 := by decide
  have h3 : Ieee.double.infRung = 0x7ff0000000000000 := by decide +kernel
  rw [h3] at h
  have hm : Ieee.double.word s r % 2 ^ 63 = r := by
    unfold Ieee.Format.word
    rw [h1]
    cases s <;> simp <;> omega
  unfold isn Ieee.Format.read
  simp only [h1, h2, h3, hm]
  split
  · rfl
  · split
    · rfl
    · rw [if_pos (by omega)]
      rfl
theorem isn_nearest (s : Bool) (m : Nat) (p : Int) : isn (Ieee.double.nearest s m p) = false := by
  unfold Ieee.Format.nearest
  dsimp only
  split
  · exact isn_word _ _ (Nat.zero_le _)
  · exact isn_word _ _ (Nat.min_le_right ..)
theorem isn_foi (n : Int) : isn (foi n) = false := isn_nearest _ _ _
theorem isn_write (d : Ieee.Datum) (h : d.isNaN = false) : isn (Ieee.double.write d) = false := by
  cases d with
  | number s m e => exact isn_nearest _ _ _
  | infinity s => exact isn_word _ _ (Nat.le_refl _)
  | nan s f => simp [Ieee.Datum.isNaN] at h
end Go.Proofs.Ytmndffnjejgfoab.Gen
