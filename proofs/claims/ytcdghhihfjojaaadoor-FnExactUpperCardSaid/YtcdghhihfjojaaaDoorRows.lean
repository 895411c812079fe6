/-
  NARROWER THAN 'FOR EVERY INPUT', by the rows' own cells (each row's printed sentence says how): FnExactClean: laid · FnExactUpper: maps, laid.
  DERIVED. THE GIVEN ROWS OF THIS SEAT. 2 by the template 'for every input the law returns true; each argument reads behind the call as it read before'; 0 by the template 'total and deterministic' (their statements: YtcdghhihfjojaaaDoorTotals.lean).
  GIVEN WITH THE SEED: the statements are not yours to turn. If you find one false, say at which input.
  Laid BY PROGRAM, IN A SANDBOX (cutbox-rows.mjs): the forced cells as the released guide's own fill.sh prints them over the translation 277e61fc5d06ea43… (all of the seat's roots in one cut). By AI agents, Wed Nov 11 2026. No macro, syntax, notation, axiom, sorry.
-/
import Derived.Test.YtcdghhihfjojaaaDoorChecked
import GoSem.PinnedTables
import GoSem.Claim
import GoSem.ClaimJoined
import GoSem.ClaimMapViews
import Derived.JoinedTies
import Derived.KernelRfl
namespace Go.Proofs.YtcdghhihfjojaaaDoor
/- THE CELL 'sum', in the pinned program and in every row, IS THE sha256 OF THE DUMP (.gsa) THAT YtcdghhihfjojaaaDoorProg.lean LOADS. Nothing in Lean hashes anything: it is a label: what it is worth is what the hold of that sum in a sandbox is worth. -/
noncomputable def Tryd.pinned : Pinned := { name := "ytcdghhihfjojaaadoor", sum := "277e61fc5d06ea43775923a2f0eb97ca9232fdfb336e4cbe4b3e162b34a87431", checked := Tryd.checked }
namespace Rows
def none {H : Type} : Left H := { results := [], args := [] }

/- WHAT THE LISTED PACKAGE-LEVEL VARIABLES READ AS WHEN THE CALL BEGINS. Each datum BY PROGRAM (the guide's laid-datum.mjs) off the statement by which the dump's own 'gosem.cut.vars' lays the variable. In a bare row this is a premise. The card (YtcdghhihfjojaaaDoorCards.lean) ties it to the program's text. -/
def laid_unicode_utf8_acceptRanges {H : Type} : DataW H := .agg [.agg [.lit (.int .u8 128), .lit (.int .u8 191)], .agg [.lit (.int .u8 160), .lit (.int .u8 191)], .agg [.lit (.int .u8 128), .lit (.int .u8 159)], .agg [.lit (.int .u8 144), .lit (.int .u8 191)], .agg [.lit (.int .u8 128), .lit (.int .u8 143)], .agg [.lit (.int .u8 0), .lit (.int .u8 0)], .agg [.lit (.int .u8 0), .lit (.int .u8 0)], .agg [.lit (.int .u8 0), .lit (.int .u8 0)], .agg [.lit (.int .u8 0), .lit (.int .u8 0)], .agg [.lit (.int .u8 0), .lit (.int .u8 0)], .agg [.lit (.int .u8 0), .lit (.int .u8 0)], .agg [.lit (.int .u8 0), .lit (.int .u8 0)], .agg [.lit (.int .u8 0), .lit (.int .u8 0)], .agg [.lit (.int .u8 0), .lit (.int .u8 0)], .agg [.lit (.int .u8 0), .lit (.int .u8 0)], .agg [.lit (.int .u8 0), .lit (.int .u8 0)]]
/-- One of Go's own tables, pinned by name: the form's constant. -/
def laid_unicode_utf8_first : DataW Unit := Go.Pinned.utf8First
def laid_loop_example_g00051_impl_uppers {H : Type} : DataW H := .map [(.int .i32 192, .lit (.string [65])), (.int .i32 193, .lit (.string [65])), (.int .i32 194, .lit (.string [65])), (.int .i32 196, .lit (.string [65, 69])), (.int .i32 197, .lit (.string [65, 65])), (.int .i32 200, .lit (.string [69])), (.int .i32 201, .lit (.string [69])), (.int .i32 202, .lit (.string [69])), (.int .i32 209, .lit (.string [78])), (.int .i32 214, .lit (.string [79, 69])), (.int .i32 216, .lit (.string [79, 69])), (.int .i32 220, .lit (.string [85, 69])), (.int .i32 223, .lit (.string [83, 83])), (.int .i32 224, .lit (.string [65])), (.int .i32 225, .lit (.string [65])), (.int .i32 226, .lit (.string [65])), (.int .i32 228, .lit (.string [65, 69])), (.int .i32 229, .lit (.string [65, 65])), (.int .i32 232, .lit (.string [69])), (.int .i32 233, .lit (.string [69])), (.int .i32 234, .lit (.string [69])), (.int .i32 241, .lit (.string [78])), (.int .i32 246, .lit (.string [79, 69])), (.int .i32 248, .lit (.string [79, 69])), (.int .i32 252, .lit (.string [85, 69]))]

/-- 'laws.FnExactClean': WHATEVER THE INPUT: true; the input reads as it did. -/
def fnExactCleanSpec : ChangeSpec := { name := "fnExactClean", fn := fun _ => fun
  | [d] => { results := [.lit (.bool true)], args := [d] }
  | _ => none }
def fnExactCleanRow : OpenClaim := { program := "ytcdghhihfjojaaadoor", sum := "277e61fc5d06ea43775923a2f0eb97ca9232fdfb336e4cbe4b3e162b34a87431", func := "loop.example/g00051/laws.FnExactClean", spec := "fnExactClean", inPlace := ["internal/abi.NoEscape"], named := ["unicode/utf8.first", "unicode/utf8.acceptRanges"], apart := false, laid := [("unicode/utf8.acceptRanges", laid_unicode_utf8_acceptRanges), ("unicode/utf8.first", laid_unicode_utf8_first)] }
def FnExactCleanSaid : Prop := fnExactCleanRow.holds Tryd.pinned (OpenSpec.ofChange fnExactCleanSpec)

/-- ITS FALSE NEIGHBOUR: 'it returns false'. Refute it at one input. -/
def fnExactCleanWrong : ChangeSpec := { name := "fnExactClean", fn := fun _ => fun
  | [d] => { results := [.lit (.bool false)], args := [d] }
  | _ => none }
def FnExactCleanWrongFalsely : Prop := fnExactCleanRow.holds Tryd.pinned (OpenSpec.ofChange fnExactCleanWrong)

/-- 'laws.FnExactUpper': WHATEVER THE INPUT: true; the input reads as it did. -/
def fnExactUpperSpec : ChangeSpec := { name := "fnExactUpper", vars := ["loop.example/g00051/impl.uppers"], fn := fun _ => fun
  | [d, g1] => { results := [.lit (.bool true)], args := [d], vars := [g1] }
  | _ => none }
def fnExactUpperRow : OpenClaim := { program := "ytcdghhihfjojaaadoor", sum := "277e61fc5d06ea43775923a2f0eb97ca9232fdfb336e4cbe4b3e162b34a87431", func := "loop.example/g00051/laws.FnExactUpper", spec := "fnExactUpper", inPlace := ["internal/abi.NoEscape"], named := ["loop.example/g00051/impl.uppers", "unicode/utf8.first", "unicode/utf8.acceptRanges"], maps := true, apart := false, laid := [("unicode/utf8.acceptRanges", laid_unicode_utf8_acceptRanges), ("loop.example/g00051/impl.uppers", laid_loop_example_g00051_impl_uppers), ("unicode/utf8.first", laid_unicode_utf8_first)] }
def FnExactUpperSaid : Prop := fnExactUpperRow.holds Tryd.pinned (OpenSpec.ofChange fnExactUpperSpec)

/-- ITS FALSE NEIGHBOUR: 'it returns false'. Refute it at one input. -/
def fnExactUpperWrong : ChangeSpec := { name := "fnExactUpper", vars := ["loop.example/g00051/impl.uppers"], fn := fun _ => fun
  | [d, g1] => { results := [.lit (.bool false)], args := [d], vars := [g1] }
  | _ => none }
def FnExactUpperWrongFalsely : Prop := fnExactUpperRow.holds Tryd.pinned (OpenSpec.ofChange fnExactUpperWrong)

/- THE SECOND FORM. 'bulk': how many values and letters a reading holds, each counted each time it is reached (what is shared counts as often as it is met; a slice's spare places count too). A statement '..UptoSaid' is the law's where the arguments, and the package variables that the reading takes, are together of bulk at most 1048576: NARROWER than '..Said'. Prove '..Said' where nothing that the law and all that it calls make is longer than what came in: it says more and counts as full. Else prove '..UptoSaid'. A law counts once. -/
mutual
def uptoBulk {H : Type} : DataW H → Nat
  | .lit (.string bytes) => bytes.length + 1
  | .lit _ => 1
  | .nil => 1
  | .ptr d => uptoBulk d + 1
  | .slice elems spare => uptoBulkAll elems + uptoBulkAll spare + 1
  | .agg parts => uptoBulkAll parts + 1
  | .iface _ d => uptoBulk d + 1
  | .map entries => uptoBulkEntries entries + 1
  | .held _ => 1
def uptoBulkAll {H : Type} : List (DataW H) → Nat
  | [] => 0
  | d :: r => uptoBulk d + uptoBulkAll r
def uptoBulkEntries {H : Type} : List (Lit × DataW H) → Nat
  | [] => 0
  | x :: r => uptoBulkEntry x + uptoBulkEntries r
def uptoBulkEntry {H : Type} : Lit × DataW H → Nat
  | (.string bytes, d) => bytes.length + uptoBulk d + 1
  | (_, d) => uptoBulk d + 1
 end
def uptoSmall : (H : Type) → List (DataW H) → Bool := fun _ ds => decide (uptoBulkAll ds ≤ 1048576)
def OpenSpec.upto (s : _root_.Go.ChangeSpec) : _root_.Go.OpenSpec := { _root_.Go.OpenSpec.ofChange s with cond := some uptoSmall }

/-- 'laws.FnExactClean', WHERE WHAT IT READS IS OF BULK AT MOST 1048576: true; the input reads as it did. -/
def fnExactCleanUptoRow : OpenClaim := { program := "ytcdghhihfjojaaadoor", sum := "277e61fc5d06ea43775923a2f0eb97ca9232fdfb336e4cbe4b3e162b34a87431", func := "loop.example/g00051/laws.FnExactClean", spec := "fnExactClean", inPlace := ["internal/abi.NoEscape"], named := ["unicode/utf8.first", "unicode/utf8.acceptRanges"], apart := false, laid := [("unicode/utf8.acceptRanges", laid_unicode_utf8_acceptRanges), ("unicode/utf8.first", laid_unicode_utf8_first)], narrowed := true }
def FnExactCleanUptoSaid : Prop := fnExactCleanUptoRow.holds Tryd.pinned (OpenSpec.upto fnExactCleanSpec)

/-- 'laws.FnExactUpper', WHERE WHAT IT READS IS OF BULK AT MOST 1048576: true; the input reads as it did. -/
def fnExactUpperUptoRow : OpenClaim := { program := "ytcdghhihfjojaaadoor", sum := "277e61fc5d06ea43775923a2f0eb97ca9232fdfb336e4cbe4b3e162b34a87431", func := "loop.example/g00051/laws.FnExactUpper", spec := "fnExactUpper", inPlace := ["internal/abi.NoEscape"], named := ["loop.example/g00051/impl.uppers", "unicode/utf8.first", "unicode/utf8.acceptRanges"], maps := true, apart := false, laid := [("unicode/utf8.acceptRanges", laid_unicode_utf8_acceptRanges), ("loop.example/g00051/impl.uppers", laid_loop_example_g00051_impl_uppers), ("unicode/utf8.first", laid_unicode_utf8_first)], narrowed := true }
def FnExactUpperUptoSaid : Prop := fnExactUpperUptoRow.holds Tryd.pinned (OpenSpec.upto fnExactUpperSpec)

end Rows
end Go.Proofs.YtcdghhihfjojaaaDoor
