/-
  No cell of these rows narrows 'for every input' (looked for: loops, veiled, ifaces, maps, wideKeys, modest, calm, conditions, laid).
  DERIVED. THE GIVEN ROWS OF THIS SEAT. 6 by the template 'for every input the law returns true; each argument reads behind the call as it read before'; 0 by the template 'total and deterministic' (their statements: YtmndffnjejgfoaaTotals.lean).
  GIVEN WITH THE SEED: the statements are not yours to turn. If you find one false, say at which input.
  Laid BY PROGRAM, IN A SANDBOX (cutbox-rows.mjs): the forced cells as the released guide's own fill.sh prints them over the translation 6d023e2d223b73d4… (all of the seat's roots in one cut). By AI agents, Wed Nov 11 2026. No macro, syntax, notation, axiom, sorry.
-/
import Derived.Test.YtmndffnjejgfoaaChecked
import GoSem.Claim
import GoSem.ClaimJoined
import GoSem.ClaimMapViews
import Derived.JoinedTies
import Derived.KernelRfl
namespace Go.Proofs.Ytmndffnjejgfoaa
/- THE CELL 'sum', in the pinned program and in every row, IS THE sha256 OF THE DUMP (.gsa) THAT YtmndffnjejgfoaaProg.lean LOADS. Nothing in Lean hashes anything: it is a label: what it is worth is what the hold of that sum in a sandbox is worth. -/
noncomputable def Try.pinned : Pinned := { name := "ytmndffnjejgfoaa", sum := "6d023e2d223b73d4d541e54cabf7d95d1af60bcccbd28c0c9bb937112f5e2677", checked := Try.checked }
namespace Rows
def none {H : Type} : Left H := { results := [], args := [] }

/-- 'laws.FnExactLongest': WHATEVER THE INPUT: true; the input reads as it did. -/
def fnExactLongestSpec : ChangeSpec := { name := "fnExactLongest", fn := fun _ => fun
  | [d] => { results := [.lit (.bool true)], args := [d] }
  | _ => none }
def fnExactLongestRow : OpenClaim := { program := "ytmndffnjejgfoaa", sum := "6d023e2d223b73d4d541e54cabf7d95d1af60bcccbd28c0c9bb937112f5e2677", func := "loop.example/g00051/laws.FnExactLongest", spec := "fnExactLongest", apart := false }
def FnExactLongestSaid : Prop := fnExactLongestRow.holds Try.pinned (OpenSpec.ofChange fnExactLongestSpec)

/-- ITS FALSE NEIGHBOUR: 'it returns false'. Refute it at one input. -/
def fnExactLongestWrong : ChangeSpec := { name := "fnExactLongest", fn := fun _ => fun
  | [d] => { results := [.lit (.bool false)], args := [d] }
  | _ => none }
def FnExactLongestWrongFalsely : Prop := fnExactLongestRow.holds Try.pinned (OpenSpec.ofChange fnExactLongestWrong)

/-- 'laws.FnExactTable': WHATEVER THE INPUT: true; the input reads as it did. -/
def fnExactTableSpec : ChangeSpec := { name := "fnExactTable", fn := fun _ => fun
  | [d1, d2] => { results := [.lit (.bool true)], args := [d1, d2] }
  | _ => none }
def fnExactTableRow : OpenClaim := { program := "ytmndffnjejgfoaa", sum := "6d023e2d223b73d4d541e54cabf7d95d1af60bcccbd28c0c9bb937112f5e2677", func := "loop.example/g00051/laws.FnExactTable", spec := "fnExactTable", apart := false }
def FnExactTableSaid : Prop := fnExactTableRow.holds Try.pinned (OpenSpec.ofChange fnExactTableSpec)

/-- ITS FALSE NEIGHBOUR: 'it returns false'. Refute it at one input. -/
def fnExactTableWrong : ChangeSpec := { name := "fnExactTable", fn := fun _ => fun
  | [d1, d2] => { results := [.lit (.bool false)], args := [d1, d2] }
  | _ => none }
def FnExactTableWrongFalsely : Prop := fnExactTableRow.holds Try.pinned (OpenSpec.ofChange fnExactTableWrong)

/-- 'laws.FnExactUnwave': WHATEVER THE INPUT: true; the input reads as it did. -/
def fnExactUnwaveSpec : ChangeSpec := { name := "fnExactUnwave", fn := fun _ => fun
  | [d1, d2] => { results := [.lit (.bool true)], args := [d1, d2] }
  | _ => none }
def fnExactUnwaveRow : OpenClaim := { program := "ytmndffnjejgfoaa", sum := "6d023e2d223b73d4d541e54cabf7d95d1af60bcccbd28c0c9bb937112f5e2677", func := "loop.example/g00051/laws.FnExactUnwave", spec := "fnExactUnwave", apart := false }
def FnExactUnwaveSaid : Prop := fnExactUnwaveRow.holds Try.pinned (OpenSpec.ofChange fnExactUnwaveSpec)

/-- ITS FALSE NEIGHBOUR: 'it returns false'. Refute it at one input. -/
def fnExactUnwaveWrong : ChangeSpec := { name := "fnExactUnwave", fn := fun _ => fun
  | [d1, d2] => { results := [.lit (.bool false)], args := [d1, d2] }
  | _ => none }
def FnExactUnwaveWrongFalsely : Prop := fnExactUnwaveRow.holds Try.pinned (OpenSpec.ofChange fnExactUnwaveWrong)

/-- 'laws.FnExactNearDay': WHATEVER THE INPUT: true; the input reads as it did. -/
def fnExactNearDaySpec : ChangeSpec := { name := "fnExactNearDay", fn := fun _ => fun
  | [d1, d2, d3, d4] => { results := [.lit (.bool true)], args := [d1, d2, d3, d4] }
  | _ => none }
def fnExactNearDayRow : OpenClaim := { program := "ytmndffnjejgfoaa", sum := "6d023e2d223b73d4d541e54cabf7d95d1af60bcccbd28c0c9bb937112f5e2677", func := "loop.example/g00051/laws.FnExactNearDay", spec := "fnExactNearDay", apart := false }
def FnExactNearDaySaid : Prop := fnExactNearDayRow.holds Try.pinned (OpenSpec.ofChange fnExactNearDaySpec)

/-- ITS FALSE NEIGHBOUR: 'it returns false'. Refute it at one input. -/
def fnExactNearDayWrong : ChangeSpec := { name := "fnExactNearDay", fn := fun _ => fun
  | [d1, d2, d3, d4] => { results := [.lit (.bool false)], args := [d1, d2, d3, d4] }
  | _ => none }
def FnExactNearDayWrongFalsely : Prop := fnExactNearDayRow.holds Try.pinned (OpenSpec.ofChange fnExactNearDayWrong)

/-- 'laws.FnExactSpectrum': WHATEVER THE INPUT: true; the input reads as it did. -/
def fnExactSpectrumSpec : ChangeSpec := { name := "fnExactSpectrum", fn := fun _ => fun
  | [d] => { results := [.lit (.bool true)], args := [d] }
  | _ => none }
def fnExactSpectrumRow : OpenClaim := { program := "ytmndffnjejgfoaa", sum := "6d023e2d223b73d4d541e54cabf7d95d1af60bcccbd28c0c9bb937112f5e2677", func := "loop.example/g00051/laws.FnExactSpectrum", spec := "fnExactSpectrum", apart := false }
def FnExactSpectrumSaid : Prop := fnExactSpectrumRow.holds Try.pinned (OpenSpec.ofChange fnExactSpectrumSpec)

/-- ITS FALSE NEIGHBOUR: 'it returns false'. Refute it at one input. -/
def fnExactSpectrumWrong : ChangeSpec := { name := "fnExactSpectrum", fn := fun _ => fun
  | [d] => { results := [.lit (.bool false)], args := [d] }
  | _ => none }
def FnExactSpectrumWrongFalsely : Prop := fnExactSpectrumRow.holds Try.pinned (OpenSpec.ofChange fnExactSpectrumWrong)

/-- 'laws.FnExactUnspectrum': WHATEVER THE INPUT: true; the input reads as it did. -/
def fnExactUnspectrumSpec : ChangeSpec := { name := "fnExactUnspectrum", fn := fun _ => fun
  | [d] => { results := [.lit (.bool true)], args := [d] }
  | _ => none }
def fnExactUnspectrumRow : OpenClaim := { program := "ytmndffnjejgfoaa", sum := "6d023e2d223b73d4d541e54cabf7d95d1af60bcccbd28c0c9bb937112f5e2677", func := "loop.example/g00051/laws.FnExactUnspectrum", spec := "fnExactUnspectrum", apart := false }
def FnExactUnspectrumSaid : Prop := fnExactUnspectrumRow.holds Try.pinned (OpenSpec.ofChange fnExactUnspectrumSpec)

/-- ITS FALSE NEIGHBOUR: 'it returns false'. Refute it at one input. -/
def fnExactUnspectrumWrong : ChangeSpec := { name := "fnExactUnspectrum", fn := fun _ => fun
  | [d] => { results := [.lit (.bool false)], args := [d] }
  | _ => none }
def FnExactUnspectrumWrongFalsely : Prop := fnExactUnspectrumRow.holds Try.pinned (OpenSpec.ofChange fnExactUnspectrumWrong)

/- THE SECOND FORM. 'bulk': how many values and letters a reading holds, each counted each time it is reached (what is shared counts as often as it is met; a slice's spare places count too). A statement '..UptoSaid' is the law's where the arguments, and the package variables that the reading takes, are together of bulk at most 1048576: NARROWER than '..Said'. Prove '..Said' where nothing that the law and all that it calls make is longer than what came in: it says more and counts as full. Else prove '..UptoSaid'. A law counts once. -/
mutual
def uptoBulk {H : Type} : DataW H → Nat
  | .lit (.string bytes) => bytes.length + 1
  | .lit _ => 1
  | .nil => 1
  | .ptr d => uptoBulk d + 1
  | .slice elems spare => uptoBulkAll elems + uptoBulkAll spare + 1
  | .agg parts => uptoBulkAll parts + 1
  | .iface _ d => uptoBulk d + 1
  | .map entries => uptoBulkEntries entries + 1
  | .held _ => 1
def uptoBulkAll {H : Type} : List (DataW H) → Nat
  | [] => 0
  | d :: r => uptoBulk d + uptoBulkAll r
def uptoBulkEntries {H : Type} : List (Lit × DataW H) → Nat
  | [] => 0
  | x :: r => uptoBulkEntry x + uptoBulkEntries r
def uptoBulkEntry {H : Type} : Lit × DataW H → Nat
  | (.string bytes, d) => bytes.length + uptoBulk d + 1
  | (_, d) => uptoBulk d + 1
 end
def uptoSmall : (H : Type) → List (DataW H) → Bool := fun _ ds => decide (uptoBulkAll ds ≤ 1048576)
def OpenSpec.upto (s : _root_.Go.ChangeSpec) : _root_.Go.OpenSpec := { _root_.Go.OpenSpec.ofChange s with cond := some uptoSmall }

/-- 'laws.FnExactLongest', WHERE WHAT IT READS IS OF BULK AT MOST 1048576: true; the input reads as it did. -/
def fnExactLongestUptoRow : OpenClaim := { program := "ytmndffnjejgfoaa", sum := "6d023e2d223b73d4d541e54cabf7d95d1af60bcccbd28c0c9bb937112f5e2677", func := "loop.example/g00051/laws.FnExactLongest", spec := "fnExactLongest", apart := false, narrowed := true }
def FnExactLongestUptoSaid : Prop := fnExactLongestUptoRow.holds Try.pinned (OpenSpec.upto fnExactLongestSpec)

/-- 'laws.FnExactTable', WHERE WHAT IT READS IS OF BULK AT MOST 1048576: true; the input reads as it did. -/
def fnExactTableUptoRow : OpenClaim := { program := "ytmndffnjejgfoaa", sum := "6d023e2d223b73d4d541e54cabf7d95d1af60bcccbd28c0c9bb937112f5e2677", func := "loop.example/g00051/laws.FnExactTable", spec := "fnExactTable", apart := false, narrowed := true }
def FnExactTableUptoSaid : Prop := fnExactTableUptoRow.holds Try.pinned (OpenSpec.upto fnExactTableSpec)

/-- 'laws.FnExactUnwave', WHERE WHAT IT READS IS OF BULK AT MOST 1048576: true; the input reads as it did. -/
def fnExactUnwaveUptoRow : OpenClaim := { program := "ytmndffnjejgfoaa", sum := "6d023e2d223b73d4d541e54cabf7d95d1af60bcccbd28c0c9bb937112f5e2677", func := "loop.example/g00051/laws.FnExactUnwave", spec := "fnExactUnwave", apart := false, narrowed := true }
def FnExactUnwaveUptoSaid : Prop := fnExactUnwaveUptoRow.holds Try.pinned (OpenSpec.upto fnExactUnwaveSpec)

/-- 'laws.FnExactNearDay', WHERE WHAT IT READS IS OF BULK AT MOST 1048576: true; the input reads as it did. -/
def fnExactNearDayUptoRow : OpenClaim := { program := "ytmndffnjejgfoaa", sum := "6d023e2d223b73d4d541e54cabf7d95d1af60bcccbd28c0c9bb937112f5e2677", func := "loop.example/g00051/laws.FnExactNearDay", spec := "fnExactNearDay", apart := false, narrowed := true }
def FnExactNearDayUptoSaid : Prop := fnExactNearDayUptoRow.holds Try.pinned (OpenSpec.upto fnExactNearDaySpec)

/-- 'laws.FnExactSpectrum', WHERE WHAT IT READS IS OF BULK AT MOST 1048576: true; the input reads as it did. -/
def fnExactSpectrumUptoRow : OpenClaim := { program := "ytmndffnjejgfoaa", sum := "6d023e2d223b73d4d541e54cabf7d95d1af60bcccbd28c0c9bb937112f5e2677", func := "loop.example/g00051/laws.FnExactSpectrum", spec := "fnExactSpectrum", apart := false, narrowed := true }
def FnExactSpectrumUptoSaid : Prop := fnExactSpectrumUptoRow.holds Try.pinned (OpenSpec.upto fnExactSpectrumSpec)

/-- 'laws.FnExactUnspectrum', WHERE WHAT IT READS IS OF BULK AT MOST 1048576: true; the input reads as it did. -/
def fnExactUnspectrumUptoRow : OpenClaim := { program := "ytmndffnjejgfoaa", sum := "6d023e2d223b73d4d541e54cabf7d95d1af60bcccbd28c0c9bb937112f5e2677", func := "loop.example/g00051/laws.FnExactUnspectrum", spec := "fnExactUnspectrum", apart := false, narrowed := true }
def FnExactUnspectrumUptoSaid : Prop := fnExactUnspectrumUptoRow.holds Try.pinned (OpenSpec.upto fnExactUnspectrumSpec)

end Rows
end Go.Proofs.Ytmndffnjejgfoaa
