/-
  NARROWER THAN 'FOR EVERY INPUT', by the rows' own cells (each row's printed sentence says how): FnExactLaid: laid · FnLaid: laid.
  DERIVED. THE GIVEN ROWS OF THIS SEAT. 2 by the template 'for every input the law returns true; each argument reads behind the call as it read before'; 0 by the template 'total and deterministic' (their statements: YtcdghhihfjojaabDoorTotals.lean).
  GIVEN WITH THE SEED: the statements are not yours to turn. If you find one false, say at which input.
  Laid BY PROGRAM, IN A SANDBOX (cutbox-rows.mjs): the forced cells as the released guide's own fill.sh prints them over the translation 1942d2a0d9580924… (all of the seat's roots in one cut). By AI agents, Wed Nov 11 2026. No macro, syntax, notation, axiom, sorry.
-/
import Derived.Test.YtcdghhihfjojaabDoorChecked
import GoSem.Claim
import GoSem.ClaimJoined
import GoSem.ClaimMapViews
import Derived.JoinedTies
import Derived.KernelRfl
namespace Go.Proofs.YtcdghhihfjojaabDoor
/- THE CELL 'sum', in the pinned program and in every row, IS THE sha256 OF THE DUMP (.gsa) THAT YtcdghhihfjojaabDoorProg.lean LOADS. Nothing in Lean hashes anything: it is a label: what it is worth is what the hold of that sum in a sandbox is worth. -/
noncomputable def Tryd.pinned : Pinned := { name := "ytcdghhihfjojaabdoor", sum := "1942d2a0d95809242d746d13edc33d22dfc5bf526935bd5852c4d42a0cb2ee35", checked := Tryd.checked }
namespace Rows
def none {H : Type} : Left H := { results := [], args := [] }

/- WHAT THE LISTED PACKAGE-LEVEL VARIABLES READ AS WHEN THE CALL BEGINS. Each datum BY PROGRAM (the guide's laid-datum.mjs) off the statement by which the dump's own 'gosem.cut.vars' lays the variable. In a bare row this is a premise. The card (YtcdghhihfjojaabDoorCards.lean) ties it to the program's text. -/
def laid_loop_example_g00051_impl_weathers {H : Type} : DataW H := .slice [.lit (.string [78, 83, 87]), .lit (.string [82, 65]), .lit (.string [45, 82, 65]), .lit (.string [43, 82, 65]), .lit (.string [83, 78]), .lit (.string [45, 83, 78]), .lit (.string [43, 83, 78]), .lit (.string [84, 83, 82, 65]), .lit (.string [70, 71]), .lit (.string [66, 82])] []
def laid_loop_example_g00051_impl_covers {H : Type} : DataW H := .slice [.lit (.string [70, 69, 87]), .lit (.string [83, 67, 84]), .lit (.string [66, 75, 78]), .lit (.string [79, 86, 67])] []

/-- 'laws.FnExactLaid': WHATEVER THE INPUT: true; the input reads as it did. -/
def fnExactLaidSpec : ChangeSpec := { name := "fnExactLaid", vars := ["loop.example/g00051/impl.weathers", "loop.example/g00051/impl.covers"], fn := fun _ => fun
  | [d1, d2, g1, g2] => { results := [.lit (.bool true)], args := [d1, d2], vars := [g1, g2] }
  | _ => none }
def fnExactLaidRow : OpenClaim := { program := "ytcdghhihfjojaabdoor", sum := "1942d2a0d95809242d746d13edc33d22dfc5bf526935bd5852c4d42a0cb2ee35", func := "loop.example/g00051/laws.FnExactLaid", spec := "fnExactLaid", named := ["loop.example/g00051/impl.weathers", "loop.example/g00051/impl.covers"], apart := false, laid := [("loop.example/g00051/impl.weathers", laid_loop_example_g00051_impl_weathers), ("loop.example/g00051/impl.covers", laid_loop_example_g00051_impl_covers)] }
def FnExactLaidSaid : Prop := fnExactLaidRow.holds Tryd.pinned (OpenSpec.ofChange fnExactLaidSpec)

/-- ITS FALSE NEIGHBOUR: 'it returns false'. Refute it at one input. -/
def fnExactLaidWrong : ChangeSpec := { name := "fnExactLaid", vars := ["loop.example/g00051/impl.weathers", "loop.example/g00051/impl.covers"], fn := fun _ => fun
  | [d1, d2, g1, g2] => { results := [.lit (.bool false)], args := [d1, d2], vars := [g1, g2] }
  | _ => none }
def FnExactLaidWrongFalsely : Prop := fnExactLaidRow.holds Tryd.pinned (OpenSpec.ofChange fnExactLaidWrong)

/-- 'laws.FnLaid': WHATEVER THE INPUT: true; the input reads as it did. -/
def fnLaidSpec : ChangeSpec := { name := "fnLaid", vars := ["loop.example/g00051/impl.weathers", "loop.example/g00051/impl.covers"], fn := fun _ => fun
  | [d, g1, g2] => { results := [.lit (.bool true)], args := [d], vars := [g1, g2] }
  | _ => none }
def fnLaidRow : OpenClaim := { program := "ytcdghhihfjojaabdoor", sum := "1942d2a0d95809242d746d13edc33d22dfc5bf526935bd5852c4d42a0cb2ee35", func := "loop.example/g00051/laws.FnLaid", spec := "fnLaid", named := ["loop.example/g00051/impl.weathers", "loop.example/g00051/impl.covers"], apart := false, laid := [("loop.example/g00051/impl.weathers", laid_loop_example_g00051_impl_weathers), ("loop.example/g00051/impl.covers", laid_loop_example_g00051_impl_covers)] }
def FnLaidSaid : Prop := fnLaidRow.holds Tryd.pinned (OpenSpec.ofChange fnLaidSpec)

/-- ITS FALSE NEIGHBOUR: 'it returns false'. Refute it at one input. -/
def fnLaidWrong : ChangeSpec := { name := "fnLaid", vars := ["loop.example/g00051/impl.weathers", "loop.example/g00051/impl.covers"], fn := fun _ => fun
  | [d, g1, g2] => { results := [.lit (.bool false)], args := [d], vars := [g1, g2] }
  | _ => none }
def FnLaidWrongFalsely : Prop := fnLaidRow.holds Tryd.pinned (OpenSpec.ofChange fnLaidWrong)

/- THE SECOND FORM. 'bulk': how many values and letters a reading holds, each counted each time it is reached (what is shared counts as often as it is met; a slice's spare places count too). A statement '..UptoSaid' is the law's where the arguments, and the package variables that the reading takes, are together of bulk at most 1048576: NARROWER than '..Said'. Prove '..Said' where nothing that the law and all that it calls make is longer than what came in: it says more and counts as full. Else prove '..UptoSaid'. A law counts once. -/
mutual
def uptoBulk {H : Type} : DataW H → Nat
  | .lit (.string bytes) => bytes.length + 1
  | .lit _ => 1
  | .nil => 1
  | .ptr d => uptoBulk d + 1
  | .slice elems spare => uptoBulkAll elems + uptoBulkAll spare + 1
  | .agg parts => uptoBulkAll parts + 1
  | .iface _ d => uptoBulk d + 1
  | .map entries => uptoBulkEntries entries + 1
  | .held _ => 1
def uptoBulkAll {H : Type} : List (DataW H) → Nat
  | [] => 0
  | d :: r => uptoBulk d + uptoBulkAll r
def uptoBulkEntries {H : Type} : List (Lit × DataW H) → Nat
  | [] => 0
  | x :: r => uptoBulkEntry x + uptoBulkEntries r
def uptoBulkEntry {H : Type} : Lit × DataW H → Nat
  | (.string bytes, d) => bytes.length + uptoBulk d + 1
  | (_, d) => uptoBulk d + 1
 end
def uptoSmall : (H : Type) → List (DataW H) → Bool := fun _ ds => decide (uptoBulkAll ds ≤ 1048576)
def OpenSpec.upto (s : _root_.Go.ChangeSpec) : _root_.Go.OpenSpec := { _root_.Go.OpenSpec.ofChange s with cond := some uptoSmall }

/-- 'laws.FnExactLaid', WHERE WHAT IT READS IS OF BULK AT MOST 1048576: true; the input reads as it did. -/
def fnExactLaidUptoRow : OpenClaim := { program := "ytcdghhihfjojaabdoor", sum := "1942d2a0d95809242d746d13edc33d22dfc5bf526935bd5852c4d42a0cb2ee35", func := "loop.example/g00051/laws.FnExactLaid", spec := "fnExactLaid", named := ["loop.example/g00051/impl.weathers", "loop.example/g00051/impl.covers"], apart := false, laid := [("loop.example/g00051/impl.weathers", laid_loop_example_g00051_impl_weathers), ("loop.example/g00051/impl.covers", laid_loop_example_g00051_impl_covers)], narrowed := true }
def FnExactLaidUptoSaid : Prop := fnExactLaidUptoRow.holds Tryd.pinned (OpenSpec.upto fnExactLaidSpec)

/-- 'laws.FnLaid', WHERE WHAT IT READS IS OF BULK AT MOST 1048576: true; the input reads as it did. -/
def fnLaidUptoRow : OpenClaim := { program := "ytcdghhihfjojaabdoor", sum := "1942d2a0d95809242d746d13edc33d22dfc5bf526935bd5852c4d42a0cb2ee35", func := "loop.example/g00051/laws.FnLaid", spec := "fnLaid", named := ["loop.example/g00051/impl.weathers", "loop.example/g00051/impl.covers"], apart := false, laid := [("loop.example/g00051/impl.weathers", laid_loop_example_g00051_impl_weathers), ("loop.example/g00051/impl.covers", laid_loop_example_g00051_impl_covers)], narrowed := true }
def FnLaidUptoSaid : Prop := fnLaidUptoRow.holds Tryd.pinned (OpenSpec.upto fnLaidSpec)

end Rows
end Go.Proofs.YtcdghhihfjojaabDoor
