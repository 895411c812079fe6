/- Bounds: what the program's and the reference's tests of ranges answer. -/
import Derived.Test.YtmndffnjejgfoabGen
import Derived.Test.YtmndffnjejgfoabQx1
import Derived.Test.YtmndffnjejgfoabQx5
set_option linter.unusedVariables false
set_option linter.unusedSimpArgs false
namespace Go.Proofs.Ytmndffnjejgfoab.Gen
open Go.RowKit Go.Proofs.Ytmndffnjejgfoab.Q Go.Proofs.Ytmndffnjejgfoab.Gen Go.Proofs.YtmndffnjejgfoabW.PrintWords Go.Proofs.YtmndffnjejgfoabW.PrintMore

def inS (a b c : Int) : Bool := decide (b ≤ a) && decide (a ≤ c)
theorem inS_iff (a b c : Int) : inS a b c = true ↔ b ≤ a ∧ a ≤ c := by simp [inS]
theorem l2In_s (a b c : Int) : spec_l2In.f a b c = some (inS a b c) := by
  unfold spec_l2In.f inS; by_cases h : a ≥ b <;> simp [h, show b ≤ a ↔ a ≥ b from Iff.rfl]
theorem in_s (a b c : Int) : impl_in.f a b c = some (inS a b c) := by
  unfold impl_in.f inS; by_cases h : a ≥ b <;> simp [h, show b ≤ a ↔ a ≥ b from Iff.rfl]
end Go.Proofs.Ytmndffnjejgfoab.Gen
