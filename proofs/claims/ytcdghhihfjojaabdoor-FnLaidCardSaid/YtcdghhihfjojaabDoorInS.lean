/- Bounds: what the program's and the reference's tests of ranges answer. -/
import Derived.Test.YtcdghhihfjojaabDoorGen
import Derived.Test.YtcdghhihfjojaabDoorQx2
import Derived.Test.YtcdghhihfjojaabDoorQx8
set_option linter.unusedVariables false
set_option linter.unusedSimpArgs false
namespace Go.Proofs.YtcdghhihfjojaabDoor.Gen
open Go.RowKit Go.Proofs.YtcdghhihfjojaabDoor.Q Go.Proofs.YtcdghhihfjojaabDoor.Gen Go.Proofs.YtcdghhihfjojaabDoorW.PrintWords Go.Proofs.YtcdghhihfjojaabDoorW.PrintMore

def inS (a b c : Int) : Bool := decide (b ≤ a) && decide (a ≤ c)
theorem inS_iff (a b c : Int) : inS a b c = true ↔ b ≤ a ∧ a ≤ c := by simp [inS]
theorem l2In_s (a b c : Int) : spec_l2In.f a b c = some (inS a b c) := by
  unfold spec_l2In.f inS; by_cases h : a ≥ b <;> simp [h, show b ≤ a ↔ a ≥ b from Iff.rfl]
theorem in_s (a b c : Int) : impl_in.f a b c = some (inS a b c) := by
  unfold impl_in.f inS; by_cases h : a ≥ b <;> simp [h, show b ≤ a ↔ a ≥ b from Iff.rfl]
end Go.Proofs.YtcdghhihfjojaabDoor.Gen
