/-
  NARROWER THAN 'FOR EVERY INPUT', by the rows' own cells (each row's printed sentence says how): FnExactClosed: laid · FnExactArea: laid · FnExactWinds: laid.
  DERIVED. THE GIVEN ROWS OF THIS SEAT. 3 by the template 'for every input the law returns true; each argument reads behind the call as it read before'; 0 by the template 'total and deterministic' (their statements: YtmndffnjejgfoabDoorTotals.lean).
  GIVEN WITH THE SEED: the statements are not yours to turn. If you find one false, say at which input.
  Laid BY PROGRAM, IN A SANDBOX (cutbox-rows.mjs): the forced cells as the released guide's own fill.sh prints them over the translation 82562c71990286c5… (all of the seat's roots in one cut). By AI agents, Wed Nov 11 2026. No macro, syntax, notation, axiom, sorry.
-/
import Derived.Test.YtmndffnjejgfoabDoorChecked
import GoSem.Claim
import GoSem.ClaimJoined
import GoSem.ClaimMapViews
import Derived.JoinedTies
import Derived.KernelRfl
namespace Go.Proofs.YtmndffnjejgfoabDoor
/- THE CELL 'sum', in the pinned program and in every row, IS THE sha256 OF THE DUMP (.gsa) THAT YtmndffnjejgfoabDoorProg.lean LOADS. Nothing in Lean hashes anything: it is a label: what it is worth is what the hold of that sum in a sandbox is worth. -/
noncomputable def Tryd.pinned : Pinned := { name := "ytmndffnjejgfoabdoor", sum := "82562c71990286c5b176f932a6e7164caebd2251e1b159da9b0fd97d3ae45ab7", checked := Tryd.checked }
namespace Rows
def none {H : Type} : Left H := { results := [], args := [] }

/- WHAT THE LISTED PACKAGE-LEVEL VARIABLES READ AS WHEN THE CALL BEGINS. Each datum BY PROGRAM (the guide's laid-datum.mjs) off the statement by which the dump's own 'gosem.cut.vars' lays the variable. In a bare row this is a premise. The card (YtmndffnjejgfoabDoorCards.lean) ties it to the program's text. -/
def laid_loop_example_g00051_impl_goX {H : Type} : DataW H := .agg [.lit (.int .i64 1), .lit (.int .i64 0), .lit (.int .i64 (-1)), .lit (.int .i64 0)]
def laid_loop_example_g00051_impl_goY {H : Type} : DataW H := .agg [.lit (.int .i64 0), .lit (.int .i64 1), .lit (.int .i64 0), .lit (.int .i64 (-1))]

/-- 'laws.FnExactClosed': WHATEVER THE INPUT: true; the input reads as it did. -/
def fnExactClosedSpec : ChangeSpec := { name := "fnExactClosed", vars := ["loop.example/g00051/impl.goX", "loop.example/g00051/impl.goY"], fn := fun _ => fun
  | [d, g1, g2] => { results := [.lit (.bool true)], args := [d], vars := [g1, g2] }
  | _ => none }
def fnExactClosedRow : OpenClaim := { program := "ytmndffnjejgfoabdoor", sum := "82562c71990286c5b176f932a6e7164caebd2251e1b159da9b0fd97d3ae45ab7", func := "loop.example/g00051/laws.FnExactClosed", spec := "fnExactClosed", unfollowed := true, recurses := true, named := ["loop.example/g00051/impl.goX", "loop.example/g00051/impl.goY"], apart := false, laid := [("loop.example/g00051/impl.goX", laid_loop_example_g00051_impl_goX), ("loop.example/g00051/impl.goY", laid_loop_example_g00051_impl_goY)] }
def FnExactClosedSaid : Prop := fnExactClosedRow.holds Tryd.pinned (OpenSpec.ofChange fnExactClosedSpec)

/-- ITS FALSE NEIGHBOUR: 'it returns false'. Refute it at one input. -/
def fnExactClosedWrong : ChangeSpec := { name := "fnExactClosed", vars := ["loop.example/g00051/impl.goX", "loop.example/g00051/impl.goY"], fn := fun _ => fun
  | [d, g1, g2] => { results := [.lit (.bool false)], args := [d], vars := [g1, g2] }
  | _ => none }
def FnExactClosedWrongFalsely : Prop := fnExactClosedRow.holds Tryd.pinned (OpenSpec.ofChange fnExactClosedWrong)

/-- 'laws.FnExactArea': WHATEVER THE INPUT: true; the input reads as it did. -/
def fnExactAreaSpec : ChangeSpec := { name := "fnExactArea", vars := ["loop.example/g00051/impl.goX", "loop.example/g00051/impl.goY"], fn := fun _ => fun
  | [d, g1, g2] => { results := [.lit (.bool true)], args := [d], vars := [g1, g2] }
  | _ => none }
def fnExactAreaRow : OpenClaim := { program := "ytmndffnjejgfoabdoor", sum := "82562c71990286c5b176f932a6e7164caebd2251e1b159da9b0fd97d3ae45ab7", func := "loop.example/g00051/laws.FnExactArea", spec := "fnExactArea", unfollowed := true, recurses := true, named := ["loop.example/g00051/impl.goX", "loop.example/g00051/impl.goY"], apart := false, laid := [("loop.example/g00051/impl.goX", laid_loop_example_g00051_impl_goX), ("loop.example/g00051/impl.goY", laid_loop_example_g00051_impl_goY)] }
def FnExactAreaSaid : Prop := fnExactAreaRow.holds Tryd.pinned (OpenSpec.ofChange fnExactAreaSpec)

/-- ITS FALSE NEIGHBOUR: 'it returns false'. Refute it at one input. -/
def fnExactAreaWrong : ChangeSpec := { name := "fnExactArea", vars := ["loop.example/g00051/impl.goX", "loop.example/g00051/impl.goY"], fn := fun _ => fun
  | [d, g1, g2] => { results := [.lit (.bool false)], args := [d], vars := [g1, g2] }
  | _ => none }
def FnExactAreaWrongFalsely : Prop := fnExactAreaRow.holds Tryd.pinned (OpenSpec.ofChange fnExactAreaWrong)

/-- 'laws.FnExactWinds': WHATEVER THE INPUT: true; the input reads as it did. -/
def fnExactWindsSpec : ChangeSpec := { name := "fnExactWinds", vars := ["loop.example/g00051/impl.goX", "loop.example/g00051/impl.goY"], fn := fun _ => fun
  | [d1, d2, d3, g1, g2] => { results := [.lit (.bool true)], args := [d1, d2, d3], vars := [g1, g2] }
  | _ => none }
def fnExactWindsRow : OpenClaim := { program := "ytmndffnjejgfoabdoor", sum := "82562c71990286c5b176f932a6e7164caebd2251e1b159da9b0fd97d3ae45ab7", func := "loop.example/g00051/laws.FnExactWinds", spec := "fnExactWinds", unfollowed := true, recurses := true, named := ["loop.example/g00051/impl.goX", "loop.example/g00051/impl.goY"], apart := false, laid := [("loop.example/g00051/impl.goX", laid_loop_example_g00051_impl_goX), ("loop.example/g00051/impl.goY", laid_loop_example_g00051_impl_goY)] }
def FnExactWindsSaid : Prop := fnExactWindsRow.holds Tryd.pinned (OpenSpec.ofChange fnExactWindsSpec)

/-- ITS FALSE NEIGHBOUR: 'it returns false'. Refute it at one input. -/
def fnExactWindsWrong : ChangeSpec := { name := "fnExactWinds", vars := ["loop.example/g00051/impl.goX", "loop.example/g00051/impl.goY"], fn := fun _ => fun
  | [d1, d2, d3, g1, g2] => { results := [.lit (.bool false)], args := [d1, d2, d3], vars := [g1, g2] }
  | _ => none }
def FnExactWindsWrongFalsely : Prop := fnExactWindsRow.holds Tryd.pinned (OpenSpec.ofChange fnExactWindsWrong)

/- THE SECOND FORM. 'bulk': how many values and letters a reading holds, each counted each time it is reached (what is shared counts as often as it is met; a slice's spare places count too). A statement '..UptoSaid' is the law's where the arguments, and the package variables that the reading takes, are together of bulk at most 1048576: NARROWER than '..Said'. Prove '..Said' where nothing that the law and all that it calls make is longer than what came in: it says more and counts as full. Else prove '..UptoSaid'. A law counts once. -/
mutual
def uptoBulk {H : Type} : DataW H → Nat
  | .lit (.string bytes) => bytes.length + 1
  | .lit _ => 1
  | .nil => 1
  | .ptr d => uptoBulk d + 1
  | .slice elems spare => uptoBulkAll elems + uptoBulkAll spare + 1
  | .agg parts => uptoBulkAll parts + 1
  | .iface _ d => uptoBulk d + 1
  | .map entries => uptoBulkEntries entries + 1
  | .held _ => 1
def uptoBulkAll {H : Type} : List (DataW H) → Nat
  | [] => 0
  | d :: r => uptoBulk d + uptoBulkAll r
def uptoBulkEntries {H : Type} : List (Lit × DataW H) → Nat
  | [] => 0
  | x :: r => uptoBulkEntry x + uptoBulkEntries r
def uptoBulkEntry {H : Type} : Lit × DataW H → Nat
  | (.string bytes, d) => bytes.length + uptoBulk d + 1
  | (_, d) => uptoBulk d + 1
 end
def uptoSmall : (H : Type) → List (DataW H) → Bool := fun _ ds => decide (uptoBulkAll ds ≤ 1048576)
def OpenSpec.upto (s : _root_.Go.ChangeSpec) : _root_.Go.OpenSpec := { _root_.Go.OpenSpec.ofChange s with cond := some uptoSmall }

/-- 'laws.FnExactClosed', WHERE WHAT IT READS IS OF BULK AT MOST 1048576: true; the input reads as it did. -/
def fnExactClosedUptoRow : OpenClaim := { program := "ytmndffnjejgfoabdoor", sum := "82562c71990286c5b176f932a6e7164caebd2251e1b159da9b0fd97d3ae45ab7", func := "loop.example/g00051/laws.FnExactClosed", spec := "fnExactClosed", unfollowed := true, recurses := true, named := ["loop.example/g00051/impl.goX", "loop.example/g00051/impl.goY"], apart := false, laid := [("loop.example/g00051/impl.goX", laid_loop_example_g00051_impl_goX), ("loop.example/g00051/impl.goY", laid_loop_example_g00051_impl_goY)], narrowed := true }
def FnExactClosedUptoSaid : Prop := fnExactClosedUptoRow.holds Tryd.pinned (OpenSpec.upto fnExactClosedSpec)

/-- 'laws.FnExactArea', WHERE WHAT IT READS IS OF BULK AT MOST 1048576: true; the input reads as it did. -/
def fnExactAreaUptoRow : OpenClaim := { program := "ytmndffnjejgfoabdoor", sum := "82562c71990286c5b176f932a6e7164caebd2251e1b159da9b0fd97d3ae45ab7", func := "loop.example/g00051/laws.FnExactArea", spec := "fnExactArea", unfollowed := true, recurses := true, named := ["loop.example/g00051/impl.goX", "loop.example/g00051/impl.goY"], apart := false, laid := [("loop.example/g00051/impl.goX", laid_loop_example_g00051_impl_goX), ("loop.example/g00051/impl.goY", laid_loop_example_g00051_impl_goY)], narrowed := true }
def FnExactAreaUptoSaid : Prop := fnExactAreaUptoRow.holds Tryd.pinned (OpenSpec.upto fnExactAreaSpec)

/-- 'laws.FnExactWinds', WHERE WHAT IT READS IS OF BULK AT MOST 1048576: true; the input reads as it did. -/
def fnExactWindsUptoRow : OpenClaim := { program := "ytmndffnjejgfoabdoor", sum := "82562c71990286c5b176f932a6e7164caebd2251e1b159da9b0fd97d3ae45ab7", func := "loop.example/g00051/laws.FnExactWinds", spec := "fnExactWinds", unfollowed := true, recurses := true, named := ["loop.example/g00051/impl.goX", "loop.example/g00051/impl.goY"], apart := false, laid := [("loop.example/g00051/impl.goX", laid_loop_example_g00051_impl_goX), ("loop.example/g00051/impl.goY", laid_loop_example_g00051_impl_goY)], narrowed := true }
def FnExactWindsUptoSaid : Prop := fnExactWindsUptoRow.holds Tryd.pinned (OpenSpec.upto fnExactWindsSpec)

end Rows
end Go.Proofs.YtmndffnjejgfoabDoor
