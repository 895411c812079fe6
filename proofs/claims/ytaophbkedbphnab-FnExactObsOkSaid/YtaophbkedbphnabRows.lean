/-
  No cell of these rows narrows 'for every input' (looked for: loops, veiled, ifaces, maps, wideKeys, modest, calm, conditions, laid).
  DERIVED. THE GIVEN ROWS OF THIS SEAT. 5 by the template 'for every input the law returns true; each argument reads behind the call as it read before'; 0 by the template 'total and deterministic' (their statements: YtaophbkedbphnabTotals.lean).
  GIVEN WITH THE SEED: the statements are not yours to turn. If you find one false, say at which input.
  Laid BY PROGRAM, IN A SANDBOX (cutbox-rows.mjs): the forced cells as the released guide's own fill.sh prints them over the translation 6aac6c8cbac2e958… (all of the seat's roots in one cut). By AI agents, Wed Nov 11 2026. No macro, syntax, notation, axiom, sorry.
-/
import Derived.Test.YtaophbkedbphnabChecked
import GoSem.Claim
import GoSem.ClaimJoined
import GoSem.ClaimMapViews
import Derived.JoinedTies
import Derived.KernelRfl
namespace Go.Proofs.Ytaophbkedbphnab
/- THE CELL 'sum', in the pinned program and in every row, IS THE sha256 OF THE DUMP (.gsa) THAT YtaophbkedbphnabProg.lean LOADS. Nothing in Lean hashes anything: it is a label: what it is worth is what the hold of that sum in a sandbox is worth. -/
noncomputable def Try.pinned : Pinned := { name := "ytaophbkedbphnab", sum := "6aac6c8cbac2e958fa6f96157808596891dca77665f5710be1462b2fd8e1ce64", checked := Try.checked }
namespace Rows
def none {H : Type} : Left H := { results := [], args := [] }

/-- 'laws.FnExactSmooth': WHATEVER THE INPUT: true; the input reads as it did. -/
def fnExactSmoothSpec : ChangeSpec := { name := "fnExactSmooth", fn := fun _ => fun
  | [d1, d2] => { results := [.lit (.bool true)], args := [d1, d2] }
  | _ => none }
def fnExactSmoothRow : OpenClaim := { program := "ytaophbkedbphnab", sum := "6aac6c8cbac2e958fa6f96157808596891dca77665f5710be1462b2fd8e1ce64", func := "loop.example/g00051/laws.FnExactSmooth", spec := "fnExactSmooth", inPlace := ["math.Float64frombits", "math.Float64bits"], apart := false }
def FnExactSmoothSaid : Prop := fnExactSmoothRow.holds Try.pinned (OpenSpec.ofChange fnExactSmoothSpec)

/-- ITS FALSE NEIGHBOUR: 'it returns false'. Refute it at one input. -/
def fnExactSmoothWrong : ChangeSpec := { name := "fnExactSmooth", fn := fun _ => fun
  | [d1, d2] => { results := [.lit (.bool false)], args := [d1, d2] }
  | _ => none }
def FnExactSmoothWrongFalsely : Prop := fnExactSmoothRow.holds Try.pinned (OpenSpec.ofChange fnExactSmoothWrong)

/-- 'laws.FnPairs': WHATEVER THE INPUT: true; the input reads as it did. -/
def fnPairsSpec : ChangeSpec := { name := "fnPairs", fn := fun _ => fun
  | [d] => { results := [.lit (.bool true)], args := [d] }
  | _ => none }
def fnPairsRow : OpenClaim := { program := "ytaophbkedbphnab", sum := "6aac6c8cbac2e958fa6f96157808596891dca77665f5710be1462b2fd8e1ce64", func := "loop.example/g00051/laws.FnPairs", spec := "fnPairs", apart := false }
def FnPairsSaid : Prop := fnPairsRow.holds Try.pinned (OpenSpec.ofChange fnPairsSpec)

/-- ITS FALSE NEIGHBOUR: 'it returns false'. Refute it at one input. -/
def fnPairsWrong : ChangeSpec := { name := "fnPairs", fn := fun _ => fun
  | [d] => { results := [.lit (.bool false)], args := [d] }
  | _ => none }
def FnPairsWrongFalsely : Prop := fnPairsRow.holds Try.pinned (OpenSpec.ofChange fnPairsWrong)

/-- 'laws.FnDewPoint': WHATEVER THE INPUT: true; the input reads as it did. -/
def fnDewPointSpec : ChangeSpec := { name := "fnDewPoint", fn := fun _ => fun
  | [d] => { results := [.lit (.bool true)], args := [d] }
  | _ => none }
def fnDewPointRow : OpenClaim := { program := "ytaophbkedbphnab", sum := "6aac6c8cbac2e958fa6f96157808596891dca77665f5710be1462b2fd8e1ce64", func := "loop.example/g00051/laws.FnDewPoint", spec := "fnDewPoint", inPlace := ["math.Float64frombits", "math.Float64bits"], apart := false }
def FnDewPointSaid : Prop := fnDewPointRow.holds Try.pinned (OpenSpec.ofChange fnDewPointSpec)

/-- ITS FALSE NEIGHBOUR: 'it returns false'. Refute it at one input. -/
def fnDewPointWrong : ChangeSpec := { name := "fnDewPoint", fn := fun _ => fun
  | [d] => { results := [.lit (.bool false)], args := [d] }
  | _ => none }
def FnDewPointWrongFalsely : Prop := fnDewPointRow.holds Try.pinned (OpenSpec.ofChange fnDewPointWrong)

/-- 'laws.FnExactBias': WHATEVER THE INPUT: true; the input reads as it did. -/
def fnExactBiasSpec : ChangeSpec := { name := "fnExactBias", fn := fun _ => fun
  | [d1, d2] => { results := [.lit (.bool true)], args := [d1, d2] }
  | _ => none }
def fnExactBiasRow : OpenClaim := { program := "ytaophbkedbphnab", sum := "6aac6c8cbac2e958fa6f96157808596891dca77665f5710be1462b2fd8e1ce64", func := "loop.example/g00051/laws.FnExactBias", spec := "fnExactBias", inPlace := ["math.Float64frombits", "math.Float64bits"], unfollowed := true, recurses := true, apart := false }
def FnExactBiasSaid : Prop := fnExactBiasRow.holds Try.pinned (OpenSpec.ofChange fnExactBiasSpec)

/-- ITS FALSE NEIGHBOUR: 'it returns false'. Refute it at one input. -/
def fnExactBiasWrong : ChangeSpec := { name := "fnExactBias", fn := fun _ => fun
  | [d1, d2] => { results := [.lit (.bool false)], args := [d1, d2] }
  | _ => none }
def FnExactBiasWrongFalsely : Prop := fnExactBiasRow.holds Try.pinned (OpenSpec.ofChange fnExactBiasWrong)

/-- 'laws.FnExactObsOk': WHATEVER THE INPUT: true; the input reads as it did. -/
def fnExactObsOkSpec : ChangeSpec := { name := "fnExactObsOk", fn := fun _ => fun
  | [d] => { results := [.lit (.bool true)], args := [d] }
  | _ => none }
def fnExactObsOkRow : OpenClaim := { program := "ytaophbkedbphnab", sum := "6aac6c8cbac2e958fa6f96157808596891dca77665f5710be1462b2fd8e1ce64", func := "loop.example/g00051/laws.FnExactObsOk", spec := "fnExactObsOk", inPlace := ["math.Float64bits", "math.Float64frombits"], unfollowed := true, recurses := true, apart := false }
def FnExactObsOkSaid : Prop := fnExactObsOkRow.holds Try.pinned (OpenSpec.ofChange fnExactObsOkSpec)

/-- ITS FALSE NEIGHBOUR: 'it returns false'. Refute it at one input. -/
def fnExactObsOkWrong : ChangeSpec := { name := "fnExactObsOk", fn := fun _ => fun
  | [d] => { results := [.lit (.bool false)], args := [d] }
  | _ => none }
def FnExactObsOkWrongFalsely : Prop := fnExactObsOkRow.holds Try.pinned (OpenSpec.ofChange fnExactObsOkWrong)

/- THE SECOND FORM. 'bulk': how many values and letters a reading holds, each counted each time it is reached (what is shared counts as often as it is met; a slice's spare places count too). A statement '..UptoSaid' is the law's where the arguments, and the package variables that the reading takes, are together of bulk at most 1048576: NARROWER than '..Said'. Prove '..Said' where nothing that the law and all that it calls make is longer than what came in: it says more and counts as full. Else prove '..UptoSaid'. A law counts once. -/
mutual
def uptoBulk {H : Type} : DataW H → Nat
  | .lit (.string bytes) => bytes.length + 1
  | .lit _ => 1
  | .nil => 1
  | .ptr d => uptoBulk d + 1
  | .slice elems spare => uptoBulkAll elems + uptoBulkAll spare + 1
  | .agg parts => uptoBulkAll parts + 1
  | .iface _ d => uptoBulk d + 1
  | .map entries => uptoBulkEntries entries + 1
  | .held _ => 1
def uptoBulkAll {H : Type} : List (DataW H) → Nat
  | [] => 0
  | d :: r => uptoBulk d + uptoBulkAll r
def uptoBulkEntries {H : Type} : List (Lit × DataW H) → Nat
  | [] => 0
  | x :: r => uptoBulkEntry x + uptoBulkEntries r
def uptoBulkEntry {H : Type} : Lit × DataW H → Nat
  | (.string bytes, d) => bytes.length + uptoBulk d + 1
  | (_, d) => uptoBulk d + 1
 end
def uptoSmall : (H : Type) → List (DataW H) → Bool := fun _ ds => decide (uptoBulkAll ds ≤ 1048576)
def OpenSpec.upto (s : _root_.Go.ChangeSpec) : _root_.Go.OpenSpec := { _root_.Go.OpenSpec.ofChange s with cond := some uptoSmall }

/-- 'laws.FnExactSmooth', WHERE WHAT IT READS IS OF BULK AT MOST 1048576: true; the input reads as it did. -/
def fnExactSmoothUptoRow : OpenClaim := { program := "ytaophbkedbphnab", sum := "6aac6c8cbac2e958fa6f96157808596891dca77665f5710be1462b2fd8e1ce64", func := "loop.example/g00051/laws.FnExactSmooth", spec := "fnExactSmooth", inPlace := ["math.Float64frombits", "math.Float64bits"], apart := false, narrowed := true }
def FnExactSmoothUptoSaid : Prop := fnExactSmoothUptoRow.holds Try.pinned (OpenSpec.upto fnExactSmoothSpec)

/-- 'laws.FnPairs', WHERE WHAT IT READS IS OF BULK AT MOST 1048576: true; the input reads as it did. -/
def fnPairsUptoRow : OpenClaim := { program := "ytaophbkedbphnab", sum := "6aac6c8cbac2e958fa6f96157808596891dca77665f5710be1462b2fd8e1ce64", func := "loop.example/g00051/laws.FnPairs", spec := "fnPairs", apart := false, narrowed := true }
def FnPairsUptoSaid : Prop := fnPairsUptoRow.holds Try.pinned (OpenSpec.upto fnPairsSpec)

/-- 'laws.FnDewPoint', WHERE WHAT IT READS IS OF BULK AT MOST 1048576: true; the input reads as it did. -/
def fnDewPointUptoRow : OpenClaim := { program := "ytaophbkedbphnab", sum := "6aac6c8cbac2e958fa6f96157808596891dca77665f5710be1462b2fd8e1ce64", func := "loop.example/g00051/laws.FnDewPoint", spec := "fnDewPoint", inPlace := ["math.Float64frombits", "math.Float64bits"], apart := false, narrowed := true }
def FnDewPointUptoSaid : Prop := fnDewPointUptoRow.holds Try.pinned (OpenSpec.upto fnDewPointSpec)

/-- 'laws.FnExactBias', WHERE WHAT IT READS IS OF BULK AT MOST 1048576: true; the input reads as it did. -/
def fnExactBiasUptoRow : OpenClaim := { program := "ytaophbkedbphnab", sum := "6aac6c8cbac2e958fa6f96157808596891dca77665f5710be1462b2fd8e1ce64", func := "loop.example/g00051/laws.FnExactBias", spec := "fnExactBias", inPlace := ["math.Float64frombits", "math.Float64bits"], unfollowed := true, recurses := true, apart := false, narrowed := true }
def FnExactBiasUptoSaid : Prop := fnExactBiasUptoRow.holds Try.pinned (OpenSpec.upto fnExactBiasSpec)

/-- 'laws.FnExactObsOk', WHERE WHAT IT READS IS OF BULK AT MOST 1048576: true; the input reads as it did. -/
def fnExactObsOkUptoRow : OpenClaim := { program := "ytaophbkedbphnab", sum := "6aac6c8cbac2e958fa6f96157808596891dca77665f5710be1462b2fd8e1ce64", func := "loop.example/g00051/laws.FnExactObsOk", spec := "fnExactObsOk", inPlace := ["math.Float64bits", "math.Float64frombits"], unfollowed := true, recurses := true, apart := false, narrowed := true }
def FnExactObsOkUptoSaid : Prop := fnExactObsOkUptoRow.holds Try.pinned (OpenSpec.upto fnExactObsOkSpec)

end Rows
end Go.Proofs.Ytaophbkedbphnab
