/-
  No cell of these rows narrows 'for every input' (looked for: loops, veiled, ifaces, maps, wideKeys, modest, calm, conditions, laid).
  DERIVED. THE GIVEN ROWS OF THIS SEAT. 4 by the template 'for every input the law returns true; each argument reads behind the call as it read before'; 0 by the template 'total and deterministic' (their statements: YtcdghhihfjojaabTotals.lean).
  GIVEN WITH THE SEED: the statements are not yours to turn. If you find one false, say at which input.
  Laid BY PROGRAM, IN A SANDBOX (cutbox-rows.mjs): the forced cells as the released guide's own fill.sh prints them over the translation 942b280868ac926e… (all of the seat's roots in one cut). By AI agents, Wed Nov 11 2026. No macro, syntax, notation, axiom, sorry.
-/
import Derived.Test.YtcdghhihfjojaabChecked
import GoSem.Claim
import GoSem.ClaimJoined
import GoSem.ClaimMapViews
import Derived.JoinedTies
import Derived.KernelRfl
namespace Go.Proofs.Ytcdghhihfjojaab
/- THE CELL 'sum', in the pinned program and in every row, IS THE sha256 OF THE DUMP (.gsa) THAT YtcdghhihfjojaabProg.lean LOADS. Nothing in Lean hashes anything: it is a label: what it is worth is what the hold of that sum in a sandbox is worth. -/
noncomputable def Try.pinned : Pinned := { name := "ytcdghhihfjojaab", sum := "942b280868ac926e53cd8fc497c603acfa6aed481318436ccc86c692e3f99c28", checked := Try.checked }
namespace Rows
def none {H : Type} : Left H := { results := [], args := [] }

/-- 'laws.FnExactCells': WHATEVER THE INPUT: true; the input reads as it did. -/
def fnExactCellsSpec : ChangeSpec := { name := "fnExactCells", fn := fun _ => fun
  | [d1, d2] => { results := [.lit (.bool true)], args := [d1, d2] }
  | _ => none }
def fnExactCellsRow : OpenClaim := { program := "ytcdghhihfjojaab", sum := "942b280868ac926e53cd8fc497c603acfa6aed481318436ccc86c692e3f99c28", func := "loop.example/g00051/laws.FnExactCells", spec := "fnExactCells", apart := false }
def FnExactCellsSaid : Prop := fnExactCellsRow.holds Try.pinned (OpenSpec.ofChange fnExactCellsSpec)

/-- ITS FALSE NEIGHBOUR: 'it returns false'. Refute it at one input. -/
def fnExactCellsWrong : ChangeSpec := { name := "fnExactCells", fn := fun _ => fun
  | [d1, d2] => { results := [.lit (.bool false)], args := [d1, d2] }
  | _ => none }
def FnExactCellsWrongFalsely : Prop := fnExactCellsRow.holds Try.pinned (OpenSpec.ofChange fnExactCellsWrong)

/-- 'laws.FnStormCells': WHATEVER THE INPUT: true; the input reads as it did. -/
def fnStormCellsSpec : ChangeSpec := { name := "fnStormCells", fn := fun _ => fun
  | [d] => { results := [.lit (.bool true)], args := [d] }
  | _ => none }
def fnStormCellsRow : OpenClaim := { program := "ytcdghhihfjojaab", sum := "942b280868ac926e53cd8fc497c603acfa6aed481318436ccc86c692e3f99c28", func := "loop.example/g00051/laws.FnStormCells", spec := "fnStormCells", apart := false }
def FnStormCellsSaid : Prop := fnStormCellsRow.holds Try.pinned (OpenSpec.ofChange fnStormCellsSpec)

/-- ITS FALSE NEIGHBOUR: 'it returns false'. Refute it at one input. -/
def fnStormCellsWrong : ChangeSpec := { name := "fnStormCells", fn := fun _ => fun
  | [d] => { results := [.lit (.bool false)], args := [d] }
  | _ => none }
def FnStormCellsWrongFalsely : Prop := fnStormCellsRow.holds Try.pinned (OpenSpec.ofChange fnStormCellsWrong)

/-- 'laws.FnDrained': WHATEVER THE INPUT: true; the input reads as it did. -/
def fnDrainedSpec : ChangeSpec := { name := "fnDrained", fn := fun _ => fun
  | [d] => { results := [.lit (.bool true)], args := [d] }
  | _ => none }
def fnDrainedRow : OpenClaim := { program := "ytcdghhihfjojaab", sum := "942b280868ac926e53cd8fc497c603acfa6aed481318436ccc86c692e3f99c28", func := "loop.example/g00051/laws.FnDrained", spec := "fnDrained", apart := false }
def FnDrainedSaid : Prop := fnDrainedRow.holds Try.pinned (OpenSpec.ofChange fnDrainedSpec)

/-- ITS FALSE NEIGHBOUR: 'it returns false'. Refute it at one input. -/
def fnDrainedWrong : ChangeSpec := { name := "fnDrained", fn := fun _ => fun
  | [d] => { results := [.lit (.bool false)], args := [d] }
  | _ => none }
def FnDrainedWrongFalsely : Prop := fnDrainedRow.holds Try.pinned (OpenSpec.ofChange fnDrainedWrong)

/-- 'laws.FnExactKept': WHATEVER THE INPUT: true; the input reads as it did. -/
def fnExactKeptSpec : ChangeSpec := { name := "fnExactKept", fn := fun _ => fun
  | [d] => { results := [.lit (.bool true)], args := [d] }
  | _ => none }
def fnExactKeptRow : OpenClaim := { program := "ytcdghhihfjojaab", sum := "942b280868ac926e53cd8fc497c603acfa6aed481318436ccc86c692e3f99c28", func := "loop.example/g00051/laws.FnExactKept", spec := "fnExactKept", apart := false }
def FnExactKeptSaid : Prop := fnExactKeptRow.holds Try.pinned (OpenSpec.ofChange fnExactKeptSpec)

/-- ITS FALSE NEIGHBOUR: 'it returns false'. Refute it at one input. -/
def fnExactKeptWrong : ChangeSpec := { name := "fnExactKept", fn := fun _ => fun
  | [d] => { results := [.lit (.bool false)], args := [d] }
  | _ => none }
def FnExactKeptWrongFalsely : Prop := fnExactKeptRow.holds Try.pinned (OpenSpec.ofChange fnExactKeptWrong)

/- THE SECOND FORM. 'bulk': how many values and letters a reading holds, each counted each time it is reached (what is shared counts as often as it is met; a slice's spare places count too). A statement '..UptoSaid' is the law's where the arguments, and the package variables that the reading takes, are together of bulk at most 1048576: NARROWER than '..Said'. Prove '..Said' where nothing that the law and all that it calls make is longer than what came in: it says more and counts as full. Else prove '..UptoSaid'. A law counts once. -/
mutual
def uptoBulk {H : Type} : DataW H → Nat
  | .lit (.string bytes) => bytes.length + 1
  | .lit _ => 1
  | .nil => 1
  | .ptr d => uptoBulk d + 1
  | .slice elems spare => uptoBulkAll elems + uptoBulkAll spare + 1
  | .agg parts => uptoBulkAll parts + 1
  | .iface _ d => uptoBulk d + 1
  | .map entries => uptoBulkEntries entries + 1
  | .held _ => 1
def uptoBulkAll {H : Type} : List (DataW H) → Nat
  | [] => 0
  | d :: r => uptoBulk d + uptoBulkAll r
def uptoBulkEntries {H : Type} : List (Lit × DataW H) → Nat
  | [] => 0
  | x :: r => uptoBulkEntry x + uptoBulkEntries r
def uptoBulkEntry {H : Type} : Lit × DataW H → Nat
  | (.string bytes, d) => bytes.length + uptoBulk d + 1
  | (_, d) => uptoBulk d + 1
 end
def uptoSmall : (H : Type) → List (DataW H) → Bool := fun _ ds => decide (uptoBulkAll ds ≤ 1048576)
def OpenSpec.upto (s : _root_.Go.ChangeSpec) : _root_.Go.OpenSpec := { _root_.Go.OpenSpec.ofChange s with cond := some uptoSmall }

/-- 'laws.FnExactCells', WHERE WHAT IT READS IS OF BULK AT MOST 1048576: true; the input reads as it did. -/
def fnExactCellsUptoRow : OpenClaim := { program := "ytcdghhihfjojaab", sum := "942b280868ac926e53cd8fc497c603acfa6aed481318436ccc86c692e3f99c28", func := "loop.example/g00051/laws.FnExactCells", spec := "fnExactCells", apart := false, narrowed := true }
def FnExactCellsUptoSaid : Prop := fnExactCellsUptoRow.holds Try.pinned (OpenSpec.upto fnExactCellsSpec)

/-- 'laws.FnStormCells', WHERE WHAT IT READS IS OF BULK AT MOST 1048576: true; the input reads as it did. -/
def fnStormCellsUptoRow : OpenClaim := { program := "ytcdghhihfjojaab", sum := "942b280868ac926e53cd8fc497c603acfa6aed481318436ccc86c692e3f99c28", func := "loop.example/g00051/laws.FnStormCells", spec := "fnStormCells", apart := false, narrowed := true }
def FnStormCellsUptoSaid : Prop := fnStormCellsUptoRow.holds Try.pinned (OpenSpec.upto fnStormCellsSpec)

/-- 'laws.FnDrained', WHERE WHAT IT READS IS OF BULK AT MOST 1048576: true; the input reads as it did. -/
def fnDrainedUptoRow : OpenClaim := { program := "ytcdghhihfjojaab", sum := "942b280868ac926e53cd8fc497c603acfa6aed481318436ccc86c692e3f99c28", func := "loop.example/g00051/laws.FnDrained", spec := "fnDrained", apart := false, narrowed := true }
def FnDrainedUptoSaid : Prop := fnDrainedUptoRow.holds Try.pinned (OpenSpec.upto fnDrainedSpec)

/-- 'laws.FnExactKept', WHERE WHAT IT READS IS OF BULK AT MOST 1048576: true; the input reads as it did. -/
def fnExactKeptUptoRow : OpenClaim := { program := "ytcdghhihfjojaab", sum := "942b280868ac926e53cd8fc497c603acfa6aed481318436ccc86c692e3f99c28", func := "loop.example/g00051/laws.FnExactKept", spec := "fnExactKept", apart := false, narrowed := true }
def FnExactKeptUptoSaid : Prop := fnExactKeptUptoRow.holds Try.pinned (OpenSpec.upto fnExactKeptSpec)

end Rows
end Go.Proofs.Ytcdghhihfjojaab
