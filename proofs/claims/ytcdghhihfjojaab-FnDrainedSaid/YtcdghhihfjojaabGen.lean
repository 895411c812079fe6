/- Loops told by rounds: general lemmas for the plain statements of this seat: a loop with an invariant and a measure ends; copying, comparing, marking of lists. No condition. -/
import Derived.Test.YtcdghhihfjojaabWWords
import Derived.Test.YtcdghhihfjojaabWMore
set_option linter.unusedVariables false
set_option linter.unusedSimpArgs false
namespace Go.Proofs.Ytcdghhihfjojaab.Gen
open Go.RowKit Go.Proofs.YtcdghhihfjojaabW.PrintWords Go.Proofs.YtcdghhihfjojaabW.PrintMore

theorem evPos {R : Type} {c : Prop} [Decidable c] {g g' : Nat → Option R} {r : R} (hc : c) (h : Ev g r) : Ev (fun k => if c then g k else g' k) r := by
  simpa only [if_pos hc] using h
theorem evNeg {R : Type} {c : Prop} [Decidable c] {g g' : Nat → Option R} {r : R} (hc : ¬ c) (h : Ev g' r) : Ev (fun k => if c then g k else g' k) r := by
  simpa only [if_neg hc] using h
theorem w64 {x : Int} (h0 : -9223372036854775808 ≤ x) (h1 : x ≤ 9223372036854775807) : wrap64 x = x := by unfold wrap64; omega

/-! lists -/
theorem rd_nat (xs : List Int) (i : Nat) : rd xs (i : Int) = xs.getD i 0 := by simp [rd]
theorem up1 {j : Nat} (h : j < 4611686018427387904) : wrap64 ((j : Int) + 1) = ((j + 1 : Nat) : Int) := by unfold wrap64; omega

end Go.Proofs.Ytcdghhihfjojaab.Gen
