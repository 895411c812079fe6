/-
  No cell of these rows narrows 'for every input' (looked for: loops, veiled, ifaces, maps, wideKeys, modest, calm, conditions, laid).
  DERIVED. THE GIVEN ROWS OF THIS SEAT. 6 by the template 'for every input the law returns true; each argument reads behind the call as it read before'; 0 by the template 'total and deterministic' (their statements: YteobnbichpadjabTotals.lean).
  GIVEN WITH THE SEED: the statements are not yours to turn. If you find one false, say at which input.
  Laid BY PROGRAM, IN A SANDBOX (cutbox-rows.mjs): the forced cells as the released guide's own fill.sh prints them over the translation c544460f935d4f7c… (all of the seat's roots in one cut). By AI agents, Wed Nov 11 2026. No macro, syntax, notation, axiom, sorry.
-/
import Derived.Test.YteobnbichpadjabChecked
import GoSem.Claim
import GoSem.ClaimJoined
import GoSem.ClaimMapViews
import Derived.JoinedTies
import Derived.KernelRfl
namespace Go.Proofs.Yteobnbichpadjab
/- THE CELL 'sum', in the pinned program and in every row, IS THE sha256 OF THE DUMP (.gsa) THAT YteobnbichpadjabProg.lean LOADS. Nothing in Lean hashes anything: it is a label: what it is worth is what the hold of that sum in a sandbox is worth. -/
noncomputable def Try.pinned : Pinned := { name := "yteobnbichpadjab", sum := "c544460f935d4f7c06ca5655722bf1110f26cd5e3624ed99c9fd92ef7b346f48", checked := Try.checked }
namespace Rows
def none {H : Type} : Left H := { results := [], args := [] }

/-- 'laws.FnDealt': WHATEVER THE INPUT: true; the input reads as it did. -/
def fnDealtSpec : ChangeSpec := { name := "fnDealt", fn := fun _ => fun
  | [d] => { results := [.lit (.bool true)], args := [d] }
  | _ => none }
def fnDealtRow : OpenClaim := { program := "yteobnbichpadjab", sum := "c544460f935d4f7c06ca5655722bf1110f26cd5e3624ed99c9fd92ef7b346f48", func := "loop.example/g00051/laws.FnDealt", spec := "fnDealt", unfollowed := true, recurses := true, apart := false }
def FnDealtSaid : Prop := fnDealtRow.holds Try.pinned (OpenSpec.ofChange fnDealtSpec)

/-- ITS FALSE NEIGHBOUR: 'it returns false'. Refute it at one input. -/
def fnDealtWrong : ChangeSpec := { name := "fnDealt", fn := fun _ => fun
  | [d] => { results := [.lit (.bool false)], args := [d] }
  | _ => none }
def FnDealtWrongFalsely : Prop := fnDealtRow.holds Try.pinned (OpenSpec.ofChange fnDealtWrong)

/-- 'laws.FnWavelets': WHATEVER THE INPUT: true; the input reads as it did. -/
def fnWaveletsSpec : ChangeSpec := { name := "fnWavelets", fn := fun _ => fun
  | [d] => { results := [.lit (.bool true)], args := [d] }
  | _ => none }
def fnWaveletsRow : OpenClaim := { program := "yteobnbichpadjab", sum := "c544460f935d4f7c06ca5655722bf1110f26cd5e3624ed99c9fd92ef7b346f48", func := "loop.example/g00051/laws.FnWavelets", spec := "fnWavelets", apart := false }
def FnWaveletsSaid : Prop := fnWaveletsRow.holds Try.pinned (OpenSpec.ofChange fnWaveletsSpec)

/-- ITS FALSE NEIGHBOUR: 'it returns false'. Refute it at one input. -/
def fnWaveletsWrong : ChangeSpec := { name := "fnWavelets", fn := fun _ => fun
  | [d] => { results := [.lit (.bool false)], args := [d] }
  | _ => none }
def FnWaveletsWrongFalsely : Prop := fnWaveletsRow.holds Try.pinned (OpenSpec.ofChange fnWaveletsWrong)

/-- 'laws.FnSpectra': WHATEVER THE INPUT: true; the input reads as it did. -/
def fnSpectraSpec : ChangeSpec := { name := "fnSpectra", fn := fun _ => fun
  | [d] => { results := [.lit (.bool true)], args := [d] }
  | _ => none }
def fnSpectraRow : OpenClaim := { program := "yteobnbichpadjab", sum := "c544460f935d4f7c06ca5655722bf1110f26cd5e3624ed99c9fd92ef7b346f48", func := "loop.example/g00051/laws.FnSpectra", spec := "fnSpectra", apart := false }
def FnSpectraSaid : Prop := fnSpectraRow.holds Try.pinned (OpenSpec.ofChange fnSpectraSpec)

/-- ITS FALSE NEIGHBOUR: 'it returns false'. Refute it at one input. -/
def fnSpectraWrong : ChangeSpec := { name := "fnSpectra", fn := fun _ => fun
  | [d] => { results := [.lit (.bool false)], args := [d] }
  | _ => none }
def FnSpectraWrongFalsely : Prop := fnSpectraRow.holds Try.pinned (OpenSpec.ofChange fnSpectraWrong)

/-- 'laws.FnExactLevels': WHATEVER THE INPUT: true; the input reads as it did. -/
def fnExactLevelsSpec : ChangeSpec := { name := "fnExactLevels", fn := fun _ => fun
  | [d1, d2, d3, d4] => { results := [.lit (.bool true)], args := [d1, d2, d3, d4] }
  | _ => none }
def fnExactLevelsRow : OpenClaim := { program := "yteobnbichpadjab", sum := "c544460f935d4f7c06ca5655722bf1110f26cd5e3624ed99c9fd92ef7b346f48", func := "loop.example/g00051/laws.FnExactLevels", spec := "fnExactLevels", unfollowed := true, recurses := true, apart := false }
def FnExactLevelsSaid : Prop := fnExactLevelsRow.holds Try.pinned (OpenSpec.ofChange fnExactLevelsSpec)

/-- ITS FALSE NEIGHBOUR: 'it returns false'. Refute it at one input. -/
def fnExactLevelsWrong : ChangeSpec := { name := "fnExactLevels", fn := fun _ => fun
  | [d1, d2, d3, d4] => { results := [.lit (.bool false)], args := [d1, d2, d3, d4] }
  | _ => none }
def FnExactLevelsWrongFalsely : Prop := fnExactLevelsRow.holds Try.pinned (OpenSpec.ofChange fnExactLevelsWrong)

/-- 'laws.FnExactHomogen': WHATEVER THE INPUT: true; the input reads as it did. -/
def fnExactHomogenSpec : ChangeSpec := { name := "fnExactHomogen", fn := fun _ => fun
  | [d] => { results := [.lit (.bool true)], args := [d] }
  | _ => none }
def fnExactHomogenRow : OpenClaim := { program := "yteobnbichpadjab", sum := "c544460f935d4f7c06ca5655722bf1110f26cd5e3624ed99c9fd92ef7b346f48", func := "loop.example/g00051/laws.FnExactHomogen", spec := "fnExactHomogen", apart := false }
def FnExactHomogenSaid : Prop := fnExactHomogenRow.holds Try.pinned (OpenSpec.ofChange fnExactHomogenSpec)

/-- ITS FALSE NEIGHBOUR: 'it returns false'. Refute it at one input. -/
def fnExactHomogenWrong : ChangeSpec := { name := "fnExactHomogen", fn := fun _ => fun
  | [d] => { results := [.lit (.bool false)], args := [d] }
  | _ => none }
def FnExactHomogenWrongFalsely : Prop := fnExactHomogenRow.holds Try.pinned (OpenSpec.ofChange fnExactHomogenWrong)

/-- 'laws.FnExactNormals': WHATEVER THE INPUT: true; the input reads as it did. -/
def fnExactNormalsSpec : ChangeSpec := { name := "fnExactNormals", fn := fun _ => fun
  | [d] => { results := [.lit (.bool true)], args := [d] }
  | _ => none }
def fnExactNormalsRow : OpenClaim := { program := "yteobnbichpadjab", sum := "c544460f935d4f7c06ca5655722bf1110f26cd5e3624ed99c9fd92ef7b346f48", func := "loop.example/g00051/laws.FnExactNormals", spec := "fnExactNormals", apart := false }
def FnExactNormalsSaid : Prop := fnExactNormalsRow.holds Try.pinned (OpenSpec.ofChange fnExactNormalsSpec)

/-- ITS FALSE NEIGHBOUR: 'it returns false'. Refute it at one input. -/
def fnExactNormalsWrong : ChangeSpec := { name := "fnExactNormals", fn := fun _ => fun
  | [d] => { results := [.lit (.bool false)], args := [d] }
  | _ => none }
def FnExactNormalsWrongFalsely : Prop := fnExactNormalsRow.holds Try.pinned (OpenSpec.ofChange fnExactNormalsWrong)

/- THE SECOND FORM. 'bulk': how many values and letters a reading holds, each counted each time it is reached (what is shared counts as often as it is met; a slice's spare places count too). A statement '..UptoSaid' is the law's where the arguments, and the package variables that the reading takes, are together of bulk at most 1048576: NARROWER than '..Said'. Prove '..Said' where nothing that the law and all that it calls make is longer than what came in: it says more and counts as full. Else prove '..UptoSaid'. A law counts once. -/
mutual
def uptoBulk {H : Type} : DataW H → Nat
  | .lit (.string bytes) => bytes.length + 1
  | .lit _ => 1
  | .nil => 1
  | .ptr d => uptoBulk d + 1
  | .slice elems spare => uptoBulkAll elems + uptoBulkAll spare + 1
  | .agg parts => uptoBulkAll parts + 1
  | .iface _ d => uptoBulk d + 1
  | .map entries => uptoBulkEntries entries + 1
  | .held _ => 1
def uptoBulkAll {H : Type} : List (DataW H) → Nat
  | [] => 0
  | d :: r => uptoBulk d + uptoBulkAll r
def uptoBulkEntries {H : Type} : List (Lit × DataW H) → Nat
  | [] => 0
  | x :: r => uptoBulkEntry x + uptoBulkEntries r
def uptoBulkEntry {H : Type} : Lit × DataW H → Nat
  | (.string bytes, d) => bytes.length + uptoBulk d + 1
  | (_, d) => uptoBulk d + 1
 end
def uptoSmall : (H : Type) → List (DataW H) → Bool := fun _ ds => decide (uptoBulkAll ds ≤ 1048576)
def OpenSpec.upto (s : _root_.Go.ChangeSpec) : _root_.Go.OpenSpec := { _root_.Go.OpenSpec.ofChange s with cond := some uptoSmall }

/-- 'laws.FnDealt', WHERE WHAT IT READS IS OF BULK AT MOST 1048576: true; the input reads as it did. -/
def fnDealtUptoRow : OpenClaim := { program := "yteobnbichpadjab", sum := "c544460f935d4f7c06ca5655722bf1110f26cd5e3624ed99c9fd92ef7b346f48", func := "loop.example/g00051/laws.FnDealt", spec := "fnDealt", unfollowed := true, recurses := true, apart := false, narrowed := true }
def FnDealtUptoSaid : Prop := fnDealtUptoRow.holds Try.pinned (OpenSpec.upto fnDealtSpec)

/-- 'laws.FnWavelets', WHERE WHAT IT READS IS OF BULK AT MOST 1048576: true; the input reads as it did. -/
def fnWaveletsUptoRow : OpenClaim := { program := "yteobnbichpadjab", sum := "c544460f935d4f7c06ca5655722bf1110f26cd5e3624ed99c9fd92ef7b346f48", func := "loop.example/g00051/laws.FnWavelets", spec := "fnWavelets", apart := false, narrowed := true }
def FnWaveletsUptoSaid : Prop := fnWaveletsUptoRow.holds Try.pinned (OpenSpec.upto fnWaveletsSpec)

/-- 'laws.FnSpectra', WHERE WHAT IT READS IS OF BULK AT MOST 1048576: true; the input reads as it did. -/
def fnSpectraUptoRow : OpenClaim := { program := "yteobnbichpadjab", sum := "c544460f935d4f7c06ca5655722bf1110f26cd5e3624ed99c9fd92ef7b346f48", func := "loop.example/g00051/laws.FnSpectra", spec := "fnSpectra", apart := false, narrowed := true }
def FnSpectraUptoSaid : Prop := fnSpectraUptoRow.holds Try.pinned (OpenSpec.upto fnSpectraSpec)

/-- 'laws.FnExactLevels', WHERE WHAT IT READS IS OF BULK AT MOST 1048576: true; the input reads as it did. -/
def fnExactLevelsUptoRow : OpenClaim := { program := "yteobnbichpadjab", sum := "c544460f935d4f7c06ca5655722bf1110f26cd5e3624ed99c9fd92ef7b346f48", func := "loop.example/g00051/laws.FnExactLevels", spec := "fnExactLevels", unfollowed := true, recurses := true, apart := false, narrowed := true }
def FnExactLevelsUptoSaid : Prop := fnExactLevelsUptoRow.holds Try.pinned (OpenSpec.upto fnExactLevelsSpec)

/-- 'laws.FnExactHomogen', WHERE WHAT IT READS IS OF BULK AT MOST 1048576: true; the input reads as it did. -/
def fnExactHomogenUptoRow : OpenClaim := { program := "yteobnbichpadjab", sum := "c544460f935d4f7c06ca5655722bf1110f26cd5e3624ed99c9fd92ef7b346f48", func := "loop.example/g00051/laws.FnExactHomogen", spec := "fnExactHomogen", apart := false, narrowed := true }
def FnExactHomogenUptoSaid : Prop := fnExactHomogenUptoRow.holds Try.pinned (OpenSpec.upto fnExactHomogenSpec)

/-- 'laws.FnExactNormals', WHERE WHAT IT READS IS OF BULK AT MOST 1048576: true; the input reads as it did. -/
def fnExactNormalsUptoRow : OpenClaim := { program := "yteobnbichpadjab", sum := "c544460f935d4f7c06ca5655722bf1110f26cd5e3624ed99c9fd92ef7b346f48", func := "loop.example/g00051/laws.FnExactNormals", spec := "fnExactNormals", apart := false, narrowed := true }
def FnExactNormalsUptoSaid : Prop := fnExactNormalsUptoRow.holds Try.pinned (OpenSpec.upto fnExactNormalsSpec)

end Rows
end Go.Proofs.Yteobnbichpadjab
