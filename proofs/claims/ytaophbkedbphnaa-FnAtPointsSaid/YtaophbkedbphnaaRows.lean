/-
  No cell of these rows narrows 'for every input' (looked for: loops, veiled, ifaces, maps, wideKeys, modest, calm, conditions, laid).
  DERIVED. THE GIVEN ROWS OF THIS SEAT. 6 by the template 'for every input the law returns true; each argument reads behind the call as it read before'; 0 by the template 'total and deterministic' (their statements: YtaophbkedbphnaaTotals.lean).
  GIVEN WITH THE SEED: the statements are not yours to turn. If you find one false, say at which input.
  Laid BY PROGRAM, IN A SANDBOX (cutbox-rows.mjs): the forced cells as the released guide's own fill.sh prints them over the translation 0a20e566320c41a7… (all of the seat's roots in one cut). By AI agents, Wed Nov 11 2026. No macro, syntax, notation, axiom, sorry.
-/
import Derived.Test.YtaophbkedbphnaaChecked
import GoSem.Claim
import GoSem.ClaimJoined
import GoSem.ClaimMapViews
import Derived.JoinedTies
import Derived.KernelRfl
namespace Go.Proofs.Ytaophbkedbphnaa
/- THE CELL 'sum', in the pinned program and in every row, IS THE sha256 OF THE DUMP (.gsa) THAT YtaophbkedbphnaaProg.lean LOADS. Nothing in Lean hashes anything: it is a label: what it is worth is what the hold of that sum in a sandbox is worth. -/
noncomputable def Try.pinned : Pinned := { name := "ytaophbkedbphnaa", sum := "0a20e566320c41a7385b236410385fab01e91cfc606488cdd9f203107d82cfcc", checked := Try.checked }
namespace Rows
def none {H : Type} : Left H := { results := [], args := [] }

/-- 'laws.FnExactInversions': WHATEVER THE INPUT: true; the input reads as it did. -/
def fnExactInversionsSpec : ChangeSpec := { name := "fnExactInversions", fn := fun _ => fun
  | [d] => { results := [.lit (.bool true)], args := [d] }
  | _ => none }
def fnExactInversionsRow : OpenClaim := { program := "ytaophbkedbphnaa", sum := "0a20e566320c41a7385b236410385fab01e91cfc606488cdd9f203107d82cfcc", func := "loop.example/g00051/laws.FnExactInversions", spec := "fnExactInversions", inPlace := ["math.Float64bits", "math.Float64frombits"], apart := false }
def FnExactInversionsSaid : Prop := fnExactInversionsRow.holds Try.pinned (OpenSpec.ofChange fnExactInversionsSpec)

/-- ITS FALSE NEIGHBOUR: 'it returns false'. Refute it at one input. -/
def fnExactInversionsWrong : ChangeSpec := { name := "fnExactInversions", fn := fun _ => fun
  | [d] => { results := [.lit (.bool false)], args := [d] }
  | _ => none }
def FnExactInversionsWrongFalsely : Prop := fnExactInversionsRow.holds Try.pinned (OpenSpec.ofChange fnExactInversionsWrong)

/-- 'laws.FnExactLapseMost': WHATEVER THE INPUT: true; the input reads as it did. -/
def fnExactLapseMostSpec : ChangeSpec := { name := "fnExactLapseMost", fn := fun _ => fun
  | [d] => { results := [.lit (.bool true)], args := [d] }
  | _ => none }
def fnExactLapseMostRow : OpenClaim := { program := "ytaophbkedbphnaa", sum := "0a20e566320c41a7385b236410385fab01e91cfc606488cdd9f203107d82cfcc", func := "loop.example/g00051/laws.FnExactLapseMost", spec := "fnExactLapseMost", inPlace := ["math.Float64bits", "math.Float64frombits"], apart := false }
def FnExactLapseMostSaid : Prop := fnExactLapseMostRow.holds Try.pinned (OpenSpec.ofChange fnExactLapseMostSpec)

/-- ITS FALSE NEIGHBOUR: 'it returns false'. Refute it at one input. -/
def fnExactLapseMostWrong : ChangeSpec := { name := "fnExactLapseMost", fn := fun _ => fun
  | [d] => { results := [.lit (.bool false)], args := [d] }
  | _ => none }
def FnExactLapseMostWrongFalsely : Prop := fnExactLapseMostRow.holds Try.pinned (OpenSpec.ofChange fnExactLapseMostWrong)

/-- 'laws.FnExactRebuild': WHATEVER THE INPUT: true; the input reads as it did. -/
def fnExactRebuildSpec : ChangeSpec := { name := "fnExactRebuild", fn := fun _ => fun
  | [d1, d2] => { results := [.lit (.bool true)], args := [d1, d2] }
  | _ => none }
def fnExactRebuildRow : OpenClaim := { program := "ytaophbkedbphnaa", sum := "0a20e566320c41a7385b236410385fab01e91cfc606488cdd9f203107d82cfcc", func := "loop.example/g00051/laws.FnExactRebuild", spec := "fnExactRebuild", inPlace := ["math.Float64bits", "math.Float64frombits"], unfollowed := true, recurses := true, apart := false }
def FnExactRebuildSaid : Prop := fnExactRebuildRow.holds Try.pinned (OpenSpec.ofChange fnExactRebuildSpec)

/-- ITS FALSE NEIGHBOUR: 'it returns false'. Refute it at one input. -/
def fnExactRebuildWrong : ChangeSpec := { name := "fnExactRebuild", fn := fun _ => fun
  | [d1, d2] => { results := [.lit (.bool false)], args := [d1, d2] }
  | _ => none }
def FnExactRebuildWrongFalsely : Prop := fnExactRebuildRow.holds Try.pinned (OpenSpec.ofChange fnExactRebuildWrong)

/-- 'laws.FnExactAt': WHATEVER THE INPUT: true; the input reads as it did. -/
def fnExactAtSpec : ChangeSpec := { name := "fnExactAt", fn := fun _ => fun
  | [d1, d2, d3, d4] => { results := [.lit (.bool true)], args := [d1, d2, d3, d4] }
  | _ => none }
def fnExactAtRow : OpenClaim := { program := "ytaophbkedbphnaa", sum := "0a20e566320c41a7385b236410385fab01e91cfc606488cdd9f203107d82cfcc", func := "loop.example/g00051/laws.FnExactAt", spec := "fnExactAt", inPlace := ["math.Float64frombits", "math.Float64bits"], unfollowed := true, recurses := true, apart := false }
def FnExactAtSaid : Prop := fnExactAtRow.holds Try.pinned (OpenSpec.ofChange fnExactAtSpec)

/-- ITS FALSE NEIGHBOUR: 'it returns false'. Refute it at one input. -/
def fnExactAtWrong : ChangeSpec := { name := "fnExactAt", fn := fun _ => fun
  | [d1, d2, d3, d4] => { results := [.lit (.bool false)], args := [d1, d2, d3, d4] }
  | _ => none }
def FnExactAtWrongFalsely : Prop := fnExactAtRow.holds Try.pinned (OpenSpec.ofChange fnExactAtWrong)

/-- 'laws.FnAtPoints': WHATEVER THE INPUT: true; the input reads as it did. -/
def fnAtPointsSpec : ChangeSpec := { name := "fnAtPoints", fn := fun _ => fun
  | [d1, d2] => { results := [.lit (.bool true)], args := [d1, d2] }
  | _ => none }
def fnAtPointsRow : OpenClaim := { program := "ytaophbkedbphnaa", sum := "0a20e566320c41a7385b236410385fab01e91cfc606488cdd9f203107d82cfcc", func := "loop.example/g00051/laws.FnAtPoints", spec := "fnAtPoints", inPlace := ["math.Float64frombits", "math.Float64bits"], unfollowed := true, recurses := true, apart := false }
def FnAtPointsSaid : Prop := fnAtPointsRow.holds Try.pinned (OpenSpec.ofChange fnAtPointsSpec)

/-- ITS FALSE NEIGHBOUR: 'it returns false'. Refute it at one input. -/
def fnAtPointsWrong : ChangeSpec := { name := "fnAtPoints", fn := fun _ => fun
  | [d1, d2] => { results := [.lit (.bool false)], args := [d1, d2] }
  | _ => none }
def FnAtPointsWrongFalsely : Prop := fnAtPointsRow.holds Try.pinned (OpenSpec.ofChange fnAtPointsWrong)

/-- 'laws.FnExactGrads': WHATEVER THE INPUT: true; the input reads as it did. -/
def fnExactGradsSpec : ChangeSpec := { name := "fnExactGrads", fn := fun _ => fun
  | [d1, d2] => { results := [.lit (.bool true)], args := [d1, d2] }
  | _ => none }
def fnExactGradsRow : OpenClaim := { program := "ytaophbkedbphnaa", sum := "0a20e566320c41a7385b236410385fab01e91cfc606488cdd9f203107d82cfcc", func := "loop.example/g00051/laws.FnExactGrads", spec := "fnExactGrads", inPlace := ["math.Float64frombits"], apart := false }
def FnExactGradsSaid : Prop := fnExactGradsRow.holds Try.pinned (OpenSpec.ofChange fnExactGradsSpec)

/-- ITS FALSE NEIGHBOUR: 'it returns false'. Refute it at one input. -/
def fnExactGradsWrong : ChangeSpec := { name := "fnExactGrads", fn := fun _ => fun
  | [d1, d2] => { results := [.lit (.bool false)], args := [d1, d2] }
  | _ => none }
def FnExactGradsWrongFalsely : Prop := fnExactGradsRow.holds Try.pinned (OpenSpec.ofChange fnExactGradsWrong)

/- THE SECOND FORM. 'bulk': how many values and letters a reading holds, each counted each time it is reached (what is shared counts as often as it is met; a slice's spare places count too). A statement '..UptoSaid' is the law's where the arguments, and the package variables that the reading takes, are together of bulk at most 1048576: NARROWER than '..Said'. Prove '..Said' where nothing that the law and all that it calls make is longer than what came in: it says more and counts as full. Else prove '..UptoSaid'. A law counts once. -/
mutual
def uptoBulk {H : Type} : DataW H → Nat
  | .lit (.string bytes) => bytes.length + 1
  | .lit _ => 1
  | .nil => 1
  | .ptr d => uptoBulk d + 1
  | .slice elems spare => uptoBulkAll elems + uptoBulkAll spare + 1
  | .agg parts => uptoBulkAll parts + 1
  | .iface _ d => uptoBulk d + 1
  | .map entries => uptoBulkEntries entries + 1
  | .held _ => 1
def uptoBulkAll {H : Type} : List (DataW H) → Nat
  | [] => 0
  | d :: r => uptoBulk d + uptoBulkAll r
def uptoBulkEntries {H : Type} : List (Lit × DataW H) → Nat
  | [] => 0
  | x :: r => uptoBulkEntry x + uptoBulkEntries r
def uptoBulkEntry {H : Type} : Lit × DataW H → Nat
  | (.string bytes, d) => bytes.length + uptoBulk d + 1
  | (_, d) => uptoBulk d + 1
 end
def uptoSmall : (H : Type) → List (DataW H) → Bool := fun _ ds => decide (uptoBulkAll ds ≤ 1048576)
def OpenSpec.upto (s : _root_.Go.ChangeSpec) : _root_.Go.OpenSpec := { _root_.Go.OpenSpec.ofChange s with cond := some uptoSmall }

/-- 'laws.FnExactInversions', WHERE WHAT IT READS IS OF BULK AT MOST 1048576: true; the input reads as it did. -/
def fnExactInversionsUptoRow : OpenClaim := { program := "ytaophbkedbphnaa", sum := "0a20e566320c41a7385b236410385fab01e91cfc606488cdd9f203107d82cfcc", func := "loop.example/g00051/laws.FnExactInversions", spec := "fnExactInversions", inPlace := ["math.Float64bits", "math.Float64frombits"], apart := false, narrowed := true }
def FnExactInversionsUptoSaid : Prop := fnExactInversionsUptoRow.holds Try.pinned (OpenSpec.upto fnExactInversionsSpec)

/-- 'laws.FnExactLapseMost', WHERE WHAT IT READS IS OF BULK AT MOST 1048576: true; the input reads as it did. -/
def fnExactLapseMostUptoRow : OpenClaim := { program := "ytaophbkedbphnaa", sum := "0a20e566320c41a7385b236410385fab01e91cfc606488cdd9f203107d82cfcc", func := "loop.example/g00051/laws.FnExactLapseMost", spec := "fnExactLapseMost", inPlace := ["math.Float64bits", "math.Float64frombits"], apart := false, narrowed := true }
def FnExactLapseMostUptoSaid : Prop := fnExactLapseMostUptoRow.holds Try.pinned (OpenSpec.upto fnExactLapseMostSpec)

/-- 'laws.FnExactRebuild', WHERE WHAT IT READS IS OF BULK AT MOST 1048576: true; the input reads as it did. -/
def fnExactRebuildUptoRow : OpenClaim := { program := "ytaophbkedbphnaa", sum := "0a20e566320c41a7385b236410385fab01e91cfc606488cdd9f203107d82cfcc", func := "loop.example/g00051/laws.FnExactRebuild", spec := "fnExactRebuild", inPlace := ["math.Float64bits", "math.Float64frombits"], unfollowed := true, recurses := true, apart := false, narrowed := true }
def FnExactRebuildUptoSaid : Prop := fnExactRebuildUptoRow.holds Try.pinned (OpenSpec.upto fnExactRebuildSpec)

/-- 'laws.FnExactAt', WHERE WHAT IT READS IS OF BULK AT MOST 1048576: true; the input reads as it did. -/
def fnExactAtUptoRow : OpenClaim := { program := "ytaophbkedbphnaa", sum := "0a20e566320c41a7385b236410385fab01e91cfc606488cdd9f203107d82cfcc", func := "loop.example/g00051/laws.FnExactAt", spec := "fnExactAt", inPlace := ["math.Float64frombits", "math.Float64bits"], unfollowed := true, recurses := true, apart := false, narrowed := true }
def FnExactAtUptoSaid : Prop := fnExactAtUptoRow.holds Try.pinned (OpenSpec.upto fnExactAtSpec)

/-- 'laws.FnAtPoints', WHERE WHAT IT READS IS OF BULK AT MOST 1048576: true; the input reads as it did. -/
def fnAtPointsUptoRow : OpenClaim := { program := "ytaophbkedbphnaa", sum := "0a20e566320c41a7385b236410385fab01e91cfc606488cdd9f203107d82cfcc", func := "loop.example/g00051/laws.FnAtPoints", spec := "fnAtPoints", inPlace := ["math.Float64frombits", "math.Float64bits"], unfollowed := true, recurses := true, apart := false, narrowed := true }
def FnAtPointsUptoSaid : Prop := fnAtPointsUptoRow.holds Try.pinned (OpenSpec.upto fnAtPointsSpec)

/-- 'laws.FnExactGrads', WHERE WHAT IT READS IS OF BULK AT MOST 1048576: true; the input reads as it did. -/
def fnExactGradsUptoRow : OpenClaim := { program := "ytaophbkedbphnaa", sum := "0a20e566320c41a7385b236410385fab01e91cfc606488cdd9f203107d82cfcc", func := "loop.example/g00051/laws.FnExactGrads", spec := "fnExactGrads", inPlace := ["math.Float64frombits"], apart := false, narrowed := true }
def FnExactGradsUptoSaid : Prop := fnExactGradsUptoRow.holds Try.pinned (OpenSpec.upto fnExactGradsSpec)

end Rows
end Go.Proofs.Ytaophbkedbphnaa
