/-
  No cell of these rows narrows 'for every input' (looked for: loops, veiled, ifaces, maps, wideKeys, modest, calm, conditions, laid).
  DERIVED. THE GIVEN ROWS OF THIS SEAT. 4 by the template 'for every input the law returns true; each argument reads behind the call as it read before'; 0 by the template 'total and deterministic' (their statements: YtcdghhihfjojaaaTotals.lean).
  GIVEN WITH THE SEED: the statements are not yours to turn. If you find one false, say at which input.
  Laid BY PROGRAM, IN A SANDBOX (cutbox-rows.mjs): the forced cells as the released guide's own fill.sh prints them over the translation 435d57c87d301a10… (all of the seat's roots in one cut). By AI agents, Wed Nov 11 2026. No macro, syntax, notation, axiom, sorry.
-/
import Derived.Test.YtcdghhihfjojaaaChecked
import GoSem.Claim
import GoSem.ClaimJoined
import GoSem.ClaimMapViews
import Derived.JoinedTies
import Derived.KernelRfl
namespace Go.Proofs.Ytcdghhihfjojaaa
/- THE CELL 'sum', in the pinned program and in every row, IS THE sha256 OF THE DUMP (.gsa) THAT YtcdghhihfjojaaaProg.lean LOADS. Nothing in Lean hashes anything: it is a label: what it is worth is what the hold of that sum in a sandbox is worth. -/
noncomputable def Try.pinned : Pinned := { name := "ytcdghhihfjojaaa", sum := "435d57c87d301a109298ad4e5c5bb24da48ec1ecf0b9d2fd779d050608e9d2f4", checked := Try.checked }
namespace Rows
def none {H : Type} : Left H := { results := [], args := [] }

/-- 'laws.FnExactPlanOk': WHATEVER THE INPUT: true; the input reads as it did. -/
def fnExactPlanOkSpec : ChangeSpec := { name := "fnExactPlanOk", fn := fun _ => fun
  | [d1, d2] => { results := [.lit (.bool true)], args := [d1, d2] }
  | _ => none }
def fnExactPlanOkRow : OpenClaim := { program := "ytcdghhihfjojaaa", sum := "435d57c87d301a109298ad4e5c5bb24da48ec1ecf0b9d2fd779d050608e9d2f4", func := "loop.example/g00051/laws.FnExactPlanOk", spec := "fnExactPlanOk", recurses := true, apart := false }
def FnExactPlanOkSaid : Prop := fnExactPlanOkRow.holds Try.pinned (OpenSpec.ofChange fnExactPlanOkSpec)

/-- ITS FALSE NEIGHBOUR: 'it returns false'. Refute it at one input. -/
def fnExactPlanOkWrong : ChangeSpec := { name := "fnExactPlanOk", fn := fun _ => fun
  | [d1, d2] => { results := [.lit (.bool false)], args := [d1, d2] }
  | _ => none }
def FnExactPlanOkWrongFalsely : Prop := fnExactPlanOkRow.holds Try.pinned (OpenSpec.ofChange fnExactPlanOkWrong)

/-- 'laws.FnExactPackRuns': WHATEVER THE INPUT: true; the input reads as it did. -/
def fnExactPackRunsSpec : ChangeSpec := { name := "fnExactPackRuns", fn := fun _ => fun
  | [d] => { results := [.lit (.bool true)], args := [d] }
  | _ => none }
def fnExactPackRunsRow : OpenClaim := { program := "ytcdghhihfjojaaa", sum := "435d57c87d301a109298ad4e5c5bb24da48ec1ecf0b9d2fd779d050608e9d2f4", func := "loop.example/g00051/laws.FnExactPackRuns", spec := "fnExactPackRuns", apart := false }
def FnExactPackRunsSaid : Prop := fnExactPackRunsRow.holds Try.pinned (OpenSpec.ofChange fnExactPackRunsSpec)

/-- ITS FALSE NEIGHBOUR: 'it returns false'. Refute it at one input. -/
def fnExactPackRunsWrong : ChangeSpec := { name := "fnExactPackRuns", fn := fun _ => fun
  | [d] => { results := [.lit (.bool false)], args := [d] }
  | _ => none }
def FnExactPackRunsWrongFalsely : Prop := fnExactPackRunsRow.holds Try.pinned (OpenSpec.ofChange fnExactPackRunsWrong)

/-- 'laws.FnExactSuiteOk': WHATEVER THE INPUT: true; the input reads as it did. -/
def fnExactSuiteOkSpec : ChangeSpec := { name := "fnExactSuiteOk", fn := fun _ => fun
  | [d] => { results := [.lit (.bool true)], args := [d] }
  | _ => none }
def fnExactSuiteOkRow : OpenClaim := { program := "ytcdghhihfjojaaa", sum := "435d57c87d301a109298ad4e5c5bb24da48ec1ecf0b9d2fd779d050608e9d2f4", func := "loop.example/g00051/laws.FnExactSuiteOk", spec := "fnExactSuiteOk", apart := false }
def FnExactSuiteOkSaid : Prop := fnExactSuiteOkRow.holds Try.pinned (OpenSpec.ofChange fnExactSuiteOkSpec)

/-- ITS FALSE NEIGHBOUR: 'it returns false'. Refute it at one input. -/
def fnExactSuiteOkWrong : ChangeSpec := { name := "fnExactSuiteOk", fn := fun _ => fun
  | [d] => { results := [.lit (.bool false)], args := [d] }
  | _ => none }
def FnExactSuiteOkWrongFalsely : Prop := fnExactSuiteOkRow.holds Try.pinned (OpenSpec.ofChange fnExactSuiteOkWrong)

/-- 'laws.FnExactMoved': WHATEVER THE INPUT: true; the input reads as it did. -/
def fnExactMovedSpec : ChangeSpec := { name := "fnExactMoved", fn := fun _ => fun
  | [d1, d2, d3] => { results := [.lit (.bool true)], args := [d1, d2, d3] }
  | _ => none }
def fnExactMovedRow : OpenClaim := { program := "ytcdghhihfjojaaa", sum := "435d57c87d301a109298ad4e5c5bb24da48ec1ecf0b9d2fd779d050608e9d2f4", func := "loop.example/g00051/laws.FnExactMoved", spec := "fnExactMoved", apart := false }
def FnExactMovedSaid : Prop := fnExactMovedRow.holds Try.pinned (OpenSpec.ofChange fnExactMovedSpec)

/-- ITS FALSE NEIGHBOUR: 'it returns false'. Refute it at one input. -/
def fnExactMovedWrong : ChangeSpec := { name := "fnExactMoved", fn := fun _ => fun
  | [d1, d2, d3] => { results := [.lit (.bool false)], args := [d1, d2, d3] }
  | _ => none }
def FnExactMovedWrongFalsely : Prop := fnExactMovedRow.holds Try.pinned (OpenSpec.ofChange fnExactMovedWrong)

/- THE SECOND FORM. 'bulk': how many values and letters a reading holds, each counted each time it is reached (what is shared counts as often as it is met; a slice's spare places count too). A statement '..UptoSaid' is the law's where the arguments, and the package variables that the reading takes, are together of bulk at most 1048576: NARROWER than '..Said'. Prove '..Said' where nothing that the law and all that it calls make is longer than what came in: it says more and counts as full. Else prove '..UptoSaid'. A law counts once. -/
mutual
def uptoBulk {H : Type} : DataW H → Nat
  | .lit (.string bytes) => bytes.length + 1
  | .lit _ => 1
  | .nil => 1
  | .ptr d => uptoBulk d + 1
  | .slice elems spare => uptoBulkAll elems + uptoBulkAll spare + 1
  | .agg parts => uptoBulkAll parts + 1
  | .iface _ d => uptoBulk d + 1
  | .map entries => uptoBulkEntries entries + 1
  | .held _ => 1
def uptoBulkAll {H : Type} : List (DataW H) → Nat
  | [] => 0
  | d :: r => uptoBulk d + uptoBulkAll r
def uptoBulkEntries {H : Type} : List (Lit × DataW H) → Nat
  | [] => 0
  | x :: r => uptoBulkEntry x + uptoBulkEntries r
def uptoBulkEntry {H : Type} : Lit × DataW H → Nat
  | (.string bytes, d) => bytes.length + uptoBulk d + 1
  | (_, d) => uptoBulk d + 1
 end
def uptoSmall : (H : Type) → List (DataW H) → Bool := fun _ ds => decide (uptoBulkAll ds ≤ 1048576)
def OpenSpec.upto (s : _root_.Go.ChangeSpec) : _root_.Go.OpenSpec := { _root_.Go.OpenSpec.ofChange s with cond := some uptoSmall }

/-- 'laws.FnExactPlanOk', WHERE WHAT IT READS IS OF BULK AT MOST 1048576: true; the input reads as it did. -/
def fnExactPlanOkUptoRow : OpenClaim := { program := "ytcdghhihfjojaaa", sum := "435d57c87d301a109298ad4e5c5bb24da48ec1ecf0b9d2fd779d050608e9d2f4", func := "loop.example/g00051/laws.FnExactPlanOk", spec := "fnExactPlanOk", recurses := true, apart := false, narrowed := true }
def FnExactPlanOkUptoSaid : Prop := fnExactPlanOkUptoRow.holds Try.pinned (OpenSpec.upto fnExactPlanOkSpec)

/-- 'laws.FnExactPackRuns', WHERE WHAT IT READS IS OF BULK AT MOST 1048576: true; the input reads as it did. -/
def fnExactPackRunsUptoRow : OpenClaim := { program := "ytcdghhihfjojaaa", sum := "435d57c87d301a109298ad4e5c5bb24da48ec1ecf0b9d2fd779d050608e9d2f4", func := "loop.example/g00051/laws.FnExactPackRuns", spec := "fnExactPackRuns", apart := false, narrowed := true }
def FnExactPackRunsUptoSaid : Prop := fnExactPackRunsUptoRow.holds Try.pinned (OpenSpec.upto fnExactPackRunsSpec)

/-- 'laws.FnExactSuiteOk', WHERE WHAT IT READS IS OF BULK AT MOST 1048576: true; the input reads as it did. -/
def fnExactSuiteOkUptoRow : OpenClaim := { program := "ytcdghhihfjojaaa", sum := "435d57c87d301a109298ad4e5c5bb24da48ec1ecf0b9d2fd779d050608e9d2f4", func := "loop.example/g00051/laws.FnExactSuiteOk", spec := "fnExactSuiteOk", apart := false, narrowed := true }
def FnExactSuiteOkUptoSaid : Prop := fnExactSuiteOkUptoRow.holds Try.pinned (OpenSpec.upto fnExactSuiteOkSpec)

/-- 'laws.FnExactMoved', WHERE WHAT IT READS IS OF BULK AT MOST 1048576: true; the input reads as it did. -/
def fnExactMovedUptoRow : OpenClaim := { program := "ytcdghhihfjojaaa", sum := "435d57c87d301a109298ad4e5c5bb24da48ec1ecf0b9d2fd779d050608e9d2f4", func := "loop.example/g00051/laws.FnExactMoved", spec := "fnExactMoved", apart := false, narrowed := true }
def FnExactMovedUptoSaid : Prop := fnExactMovedUptoRow.holds Try.pinned (OpenSpec.upto fnExactMovedSpec)

end Rows
end Go.Proofs.Ytcdghhihfjojaaa
