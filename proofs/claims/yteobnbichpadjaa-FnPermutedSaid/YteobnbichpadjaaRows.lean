/-
  No cell of these rows narrows 'for every input' (looked for: loops, veiled, ifaces, maps, wideKeys, modest, calm, conditions, laid).
  DERIVED. THE GIVEN ROWS OF THIS SEAT. 6 by the template 'for every input the law returns true; each argument reads behind the call as it read before'; 0 by the template 'total and deterministic' (their statements: YteobnbichpadjaaTotals.lean).
  GIVEN WITH THE SEED: the statements are not yours to turn. If you find one false, say at which input.
  Laid BY PROGRAM, IN A SANDBOX (cutbox-rows.mjs): the forced cells as the released guide's own fill.sh prints them over the translation ac68a9b582623718… (all of the seat's roots in one cut). By AI agents, Wed Nov 11 2026. No macro, syntax, notation, axiom, sorry.
-/
import Derived.Test.YteobnbichpadjaaChecked
import GoSem.Claim
import GoSem.ClaimJoined
import GoSem.ClaimMapViews
import Derived.JoinedTies
import Derived.KernelRfl
namespace Go.Proofs.Yteobnbichpadjaa
/- THE CELL 'sum', in the pinned program and in every row, IS THE sha256 OF THE DUMP (.gsa) THAT YteobnbichpadjaaProg.lean LOADS. Nothing in Lean hashes anything: it is a label: what it is worth is what the hold of that sum in a sandbox is worth. -/
noncomputable def Try.pinned : Pinned := { name := "yteobnbichpadjaa", sum := "ac68a9b5826237182d3a42e11b819cd31029c5aa570a7ff70d0d0bd0c5831d71", checked := Try.checked }
namespace Rows
def none {H : Type} : Left H := { results := [], args := [] }

/-- 'laws.FnTables': WHATEVER THE INPUT: true; the input reads as it did. -/
def fnTablesSpec : ChangeSpec := { name := "fnTables", fn := fun _ => fun
  | [d] => { results := [.lit (.bool true)], args := [d] }
  | _ => none }
def fnTablesRow : OpenClaim := { program := "yteobnbichpadjaa", sum := "ac68a9b5826237182d3a42e11b819cd31029c5aa570a7ff70d0d0bd0c5831d71", func := "loop.example/g00051/laws.FnTables", spec := "fnTables", apart := false }
def FnTablesSaid : Prop := fnTablesRow.holds Try.pinned (OpenSpec.ofChange fnTablesSpec)

/-- ITS FALSE NEIGHBOUR: 'it returns false'. Refute it at one input. -/
def fnTablesWrong : ChangeSpec := { name := "fnTables", fn := fun _ => fun
  | [d] => { results := [.lit (.bool false)], args := [d] }
  | _ => none }
def FnTablesWrongFalsely : Prop := fnTablesRow.holds Try.pinned (OpenSpec.ofChange fnTablesWrong)

/-- 'laws.FnExactReliable': WHATEVER THE INPUT: true; the input reads as it did. -/
def fnExactReliableSpec : ChangeSpec := { name := "fnExactReliable", fn := fun _ => fun
  | [d] => { results := [.lit (.bool true)], args := [d] }
  | _ => none }
def fnExactReliableRow : OpenClaim := { program := "yteobnbichpadjaa", sum := "ac68a9b5826237182d3a42e11b819cd31029c5aa570a7ff70d0d0bd0c5831d71", func := "loop.example/g00051/laws.FnExactReliable", spec := "fnExactReliable", apart := false }
def FnExactReliableSaid : Prop := fnExactReliableRow.holds Try.pinned (OpenSpec.ofChange fnExactReliableSpec)

/-- ITS FALSE NEIGHBOUR: 'it returns false'. Refute it at one input. -/
def fnExactReliableWrong : ChangeSpec := { name := "fnExactReliable", fn := fun _ => fun
  | [d] => { results := [.lit (.bool false)], args := [d] }
  | _ => none }
def FnExactReliableWrongFalsely : Prop := fnExactReliableRow.holds Try.pinned (OpenSpec.ofChange fnExactReliableWrong)

/-- 'laws.FnCrps': WHATEVER THE INPUT: true; the input reads as it did. -/
def fnCrpsSpec : ChangeSpec := { name := "fnCrps", fn := fun _ => fun
  | [d] => { results := [.lit (.bool true)], args := [d] }
  | _ => none }
def fnCrpsRow : OpenClaim := { program := "yteobnbichpadjaa", sum := "ac68a9b5826237182d3a42e11b819cd31029c5aa570a7ff70d0d0bd0c5831d71", func := "loop.example/g00051/laws.FnCrps", spec := "fnCrps", apart := false }
def FnCrpsSaid : Prop := fnCrpsRow.holds Try.pinned (OpenSpec.ofChange fnCrpsSpec)

/-- ITS FALSE NEIGHBOUR: 'it returns false'. Refute it at one input. -/
def fnCrpsWrong : ChangeSpec := { name := "fnCrps", fn := fun _ => fun
  | [d] => { results := [.lit (.bool false)], args := [d] }
  | _ => none }
def FnCrpsWrongFalsely : Prop := fnCrpsRow.holds Try.pinned (OpenSpec.ofChange fnCrpsWrong)

/-- 'laws.FnPermuted': WHATEVER THE INPUT: true; the input reads as it did. -/
def fnPermutedSpec : ChangeSpec := { name := "fnPermuted", fn := fun _ => fun
  | [d] => { results := [.lit (.bool true)], args := [d] }
  | _ => none }
def fnPermutedRow : OpenClaim := { program := "yteobnbichpadjaa", sum := "ac68a9b5826237182d3a42e11b819cd31029c5aa570a7ff70d0d0bd0c5831d71", func := "loop.example/g00051/laws.FnPermuted", spec := "fnPermuted", unfollowed := true, recurses := true, apart := false }
def FnPermutedSaid : Prop := fnPermutedRow.holds Try.pinned (OpenSpec.ofChange fnPermutedSpec)

/-- ITS FALSE NEIGHBOUR: 'it returns false'. Refute it at one input. -/
def fnPermutedWrong : ChangeSpec := { name := "fnPermuted", fn := fun _ => fun
  | [d] => { results := [.lit (.bool false)], args := [d] }
  | _ => none }
def FnPermutedWrongFalsely : Prop := fnPermutedRow.holds Try.pinned (OpenSpec.ofChange fnPermutedWrong)

/-- 'laws.FnExactProblemOk': WHATEVER THE INPUT: true; the input reads as it did. -/
def fnExactProblemOkSpec : ChangeSpec := { name := "fnExactProblemOk", fn := fun _ => fun
  | [d] => { results := [.lit (.bool true)], args := [d] }
  | _ => none }
def fnExactProblemOkRow : OpenClaim := { program := "yteobnbichpadjaa", sum := "ac68a9b5826237182d3a42e11b819cd31029c5aa570a7ff70d0d0bd0c5831d71", func := "loop.example/g00051/laws.FnExactProblemOk", spec := "fnExactProblemOk", apart := false }
def FnExactProblemOkSaid : Prop := fnExactProblemOkRow.holds Try.pinned (OpenSpec.ofChange fnExactProblemOkSpec)

/-- ITS FALSE NEIGHBOUR: 'it returns false'. Refute it at one input. -/
def fnExactProblemOkWrong : ChangeSpec := { name := "fnExactProblemOk", fn := fun _ => fun
  | [d] => { results := [.lit (.bool false)], args := [d] }
  | _ => none }
def FnExactProblemOkWrongFalsely : Prop := fnExactProblemOkRow.holds Try.pinned (OpenSpec.ofChange fnExactProblemOkWrong)

/-- 'laws.FnBlended': WHATEVER THE INPUT: true; the input reads as it did. -/
def fnBlendedSpec : ChangeSpec := { name := "fnBlended", fn := fun _ => fun
  | [d] => { results := [.lit (.bool true)], args := [d] }
  | _ => none }
def fnBlendedRow : OpenClaim := { program := "yteobnbichpadjaa", sum := "ac68a9b5826237182d3a42e11b819cd31029c5aa570a7ff70d0d0bd0c5831d71", func := "loop.example/g00051/laws.FnBlended", spec := "fnBlended", apart := false }
def FnBlendedSaid : Prop := fnBlendedRow.holds Try.pinned (OpenSpec.ofChange fnBlendedSpec)

/-- ITS FALSE NEIGHBOUR: 'it returns false'. Refute it at one input. -/
def fnBlendedWrong : ChangeSpec := { name := "fnBlended", fn := fun _ => fun
  | [d] => { results := [.lit (.bool false)], args := [d] }
  | _ => none }
def FnBlendedWrongFalsely : Prop := fnBlendedRow.holds Try.pinned (OpenSpec.ofChange fnBlendedWrong)

/- THE SECOND FORM. 'bulk': how many values and letters a reading holds, each counted each time it is reached (what is shared counts as often as it is met; a slice's spare places count too). A statement '..UptoSaid' is the law's where the arguments, and the package variables that the reading takes, are together of bulk at most 1048576: NARROWER than '..Said'. Prove '..Said' where nothing that the law and all that it calls make is longer than what came in: it says more and counts as full. Else prove '..UptoSaid'. A law counts once. -/
mutual
def uptoBulk {H : Type} : DataW H → Nat
  | .lit (.string bytes) => bytes.length + 1
  | .lit _ => 1
  | .nil => 1
  | .ptr d => uptoBulk d + 1
  | .slice elems spare => uptoBulkAll elems + uptoBulkAll spare + 1
  | .agg parts => uptoBulkAll parts + 1
  | .iface _ d => uptoBulk d + 1
  | .map entries => uptoBulkEntries entries + 1
  | .held _ => 1
def uptoBulkAll {H : Type} : List (DataW H) → Nat
  | [] => 0
  | d :: r => uptoBulk d + uptoBulkAll r
def uptoBulkEntries {H : Type} : List (Lit × DataW H) → Nat
  | [] => 0
  | x :: r => uptoBulkEntry x + uptoBulkEntries r
def uptoBulkEntry {H : Type} : Lit × DataW H → Nat
  | (.string bytes, d) => bytes.length + uptoBulk d + 1
  | (_, d) => uptoBulk d + 1
 end
def uptoSmall : (H : Type) → List (DataW H) → Bool := fun _ ds => decide (uptoBulkAll ds ≤ 1048576)
def OpenSpec.upto (s : _root_.Go.ChangeSpec) : _root_.Go.OpenSpec := { _root_.Go.OpenSpec.ofChange s with cond := some uptoSmall }

/-- 'laws.FnTables', WHERE WHAT IT READS IS OF BULK AT MOST 1048576: true; the input reads as it did. -/
def fnTablesUptoRow : OpenClaim := { program := "yteobnbichpadjaa", sum := "ac68a9b5826237182d3a42e11b819cd31029c5aa570a7ff70d0d0bd0c5831d71", func := "loop.example/g00051/laws.FnTables", spec := "fnTables", apart := false, narrowed := true }
def FnTablesUptoSaid : Prop := fnTablesUptoRow.holds Try.pinned (OpenSpec.upto fnTablesSpec)

/-- 'laws.FnExactReliable', WHERE WHAT IT READS IS OF BULK AT MOST 1048576: true; the input reads as it did. -/
def fnExactReliableUptoRow : OpenClaim := { program := "yteobnbichpadjaa", sum := "ac68a9b5826237182d3a42e11b819cd31029c5aa570a7ff70d0d0bd0c5831d71", func := "loop.example/g00051/laws.FnExactReliable", spec := "fnExactReliable", apart := false, narrowed := true }
def FnExactReliableUptoSaid : Prop := fnExactReliableUptoRow.holds Try.pinned (OpenSpec.upto fnExactReliableSpec)

/-- 'laws.FnCrps', WHERE WHAT IT READS IS OF BULK AT MOST 1048576: true; the input reads as it did. -/
def fnCrpsUptoRow : OpenClaim := { program := "yteobnbichpadjaa", sum := "ac68a9b5826237182d3a42e11b819cd31029c5aa570a7ff70d0d0bd0c5831d71", func := "loop.example/g00051/laws.FnCrps", spec := "fnCrps", apart := false, narrowed := true }
def FnCrpsUptoSaid : Prop := fnCrpsUptoRow.holds Try.pinned (OpenSpec.upto fnCrpsSpec)

/-- 'laws.FnPermuted', WHERE WHAT IT READS IS OF BULK AT MOST 1048576: true; the input reads as it did. -/
def fnPermutedUptoRow : OpenClaim := { program := "yteobnbichpadjaa", sum := "ac68a9b5826237182d3a42e11b819cd31029c5aa570a7ff70d0d0bd0c5831d71", func := "loop.example/g00051/laws.FnPermuted", spec := "fnPermuted", unfollowed := true, recurses := true, apart := false, narrowed := true }
def FnPermutedUptoSaid : Prop := fnPermutedUptoRow.holds Try.pinned (OpenSpec.upto fnPermutedSpec)

/-- 'laws.FnExactProblemOk', WHERE WHAT IT READS IS OF BULK AT MOST 1048576: true; the input reads as it did. -/
def fnExactProblemOkUptoRow : OpenClaim := { program := "yteobnbichpadjaa", sum := "ac68a9b5826237182d3a42e11b819cd31029c5aa570a7ff70d0d0bd0c5831d71", func := "loop.example/g00051/laws.FnExactProblemOk", spec := "fnExactProblemOk", apart := false, narrowed := true }
def FnExactProblemOkUptoSaid : Prop := fnExactProblemOkUptoRow.holds Try.pinned (OpenSpec.upto fnExactProblemOkSpec)

/-- 'laws.FnBlended', WHERE WHAT IT READS IS OF BULK AT MOST 1048576: true; the input reads as it did. -/
def fnBlendedUptoRow : OpenClaim := { program := "yteobnbichpadjaa", sum := "ac68a9b5826237182d3a42e11b819cd31029c5aa570a7ff70d0d0bd0c5831d71", func := "loop.example/g00051/laws.FnBlended", spec := "fnBlended", apart := false, narrowed := true }
def FnBlendedUptoSaid : Prop := fnBlendedUptoRow.holds Try.pinned (OpenSpec.upto fnBlendedSpec)

end Rows
end Go.Proofs.Yteobnbichpadjaa
