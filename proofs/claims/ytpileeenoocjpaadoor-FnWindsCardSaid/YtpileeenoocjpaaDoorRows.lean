/-
  NARROWER THAN 'FOR EVERY INPUT', by the rows' own cells (each row's printed sentence says how): FnExactHeight: laid · FnExactWaves: laid · FnExactMeanWind: laid · FnExactUnwaves: laid · FnExactRotate: laid · FnWinds: laid.
  DERIVED. THE GIVEN ROWS OF THIS SEAT. 6 by the template 'for every input the law returns true; each argument reads behind the call as it read before'; 0 by the template 'total and deterministic' (their statements: YtpileeenoocjpaaDoorTotals.lean).
  GIVEN WITH THE SEED: the statements are not yours to turn. If you find one false, say at which input.
  Laid BY PROGRAM, IN A SANDBOX (cutbox-rows.mjs): the forced cells as the released guide's own fill.sh prints them over the translation e1affffc1523c643… (all of the seat's roots in one cut). By AI agents, Wed Nov 11 2026. No macro, syntax, notation, axiom, sorry.
-/
import Derived.Test.YtpileeenoocjpaaDoorChecked
import GoSem.Claim
import GoSem.ClaimJoined
import GoSem.ClaimMapViews
import Derived.JoinedTies
import Derived.KernelRfl
namespace Go.Proofs.YtpileeenoocjpaaDoor
/- THE CELL 'sum', in the pinned program and in every row, IS THE sha256 OF THE DUMP (.gsa) THAT YtpileeenoocjpaaDoorProg.lean LOADS. Nothing in Lean hashes anything: it is a label: what it is worth is what the hold of that sum in a sandbox is worth. -/
noncomputable def Tryd.pinned : Pinned := { name := "ytpileeenoocjpaadoor", sum := "e1affffc1523c64331515ce35c4dd3211c8617842a7b24061ec560246662b1fd", checked := Tryd.checked }
namespace Rows
def none {H : Type} : Left H := { results := [], args := [] }

/- WHAT THE LISTED PACKAGE-LEVEL VARIABLES READ AS WHEN THE CALL BEGINS. Each datum BY PROGRAM (the guide's laid-datum.mjs) off the statement by which the dump's own 'gosem.cut.vars' lays the variable. In a bare row this is a premise. The card (YtpileeenoocjpaaDoorCards.lean) ties it to the program's text. -/
def laid_loop_example_g00051_impl_sines {H : Type} : DataW H := .agg [.lit (.float .f64 0), .lit (.float .f64 4595424355236410249), .lit (.float .f64 4599832907078044661), .lit (.float .f64 4602678819172646912), .lit (.float .f64 4603964935624201756), .lit (.float .f64 4605075134482436153), .lit (.float .f64 4605975682916830378), .lit (.float .f64 4606639218218904859), .lit (.float .f64 4607045579204271127), .lit (.float .f64 4607182418800017408)]

/-- 'laws.FnExactHeight': WHATEVER THE INPUT: true; the input reads as it did. -/
def fnExactHeightSpec : ChangeSpec := { name := "fnExactHeight", vars := ["loop.example/g00051/impl.sines"], fn := fun _ => fun
  | [d1, d2, g1] => { results := [.lit (.bool true)], args := [d1, d2], vars := [g1] }
  | _ => none }
def fnExactHeightRow : OpenClaim := { program := "ytpileeenoocjpaadoor", sum := "e1affffc1523c64331515ce35c4dd3211c8617842a7b24061ec560246662b1fd", func := "loop.example/g00051/laws.FnExactHeight", spec := "fnExactHeight", inPlace := ["math.Float64frombits"], named := ["loop.example/g00051/impl.sines"], apart := false, laid := [("loop.example/g00051/impl.sines", laid_loop_example_g00051_impl_sines)] }
def FnExactHeightSaid : Prop := fnExactHeightRow.holds Tryd.pinned (OpenSpec.ofChange fnExactHeightSpec)

/-- ITS FALSE NEIGHBOUR: 'it returns false'. Refute it at one input. -/
def fnExactHeightWrong : ChangeSpec := { name := "fnExactHeight", vars := ["loop.example/g00051/impl.sines"], fn := fun _ => fun
  | [d1, d2, g1] => { results := [.lit (.bool false)], args := [d1, d2], vars := [g1] }
  | _ => none }
def FnExactHeightWrongFalsely : Prop := fnExactHeightRow.holds Tryd.pinned (OpenSpec.ofChange fnExactHeightWrong)

/-- 'laws.FnExactWaves': WHATEVER THE INPUT: true; the input reads as it did. -/
def fnExactWavesSpec : ChangeSpec := { name := "fnExactWaves", vars := ["loop.example/g00051/impl.sines"], fn := fun _ => fun
  | [d, g1] => { results := [.lit (.bool true)], args := [d], vars := [g1] }
  | _ => none }
def fnExactWavesRow : OpenClaim := { program := "ytpileeenoocjpaadoor", sum := "e1affffc1523c64331515ce35c4dd3211c8617842a7b24061ec560246662b1fd", func := "loop.example/g00051/laws.FnExactWaves", spec := "fnExactWaves", named := ["loop.example/g00051/impl.sines"], apart := false, laid := [("loop.example/g00051/impl.sines", laid_loop_example_g00051_impl_sines)] }
def FnExactWavesSaid : Prop := fnExactWavesRow.holds Tryd.pinned (OpenSpec.ofChange fnExactWavesSpec)

/-- ITS FALSE NEIGHBOUR: 'it returns false'. Refute it at one input. -/
def fnExactWavesWrong : ChangeSpec := { name := "fnExactWaves", vars := ["loop.example/g00051/impl.sines"], fn := fun _ => fun
  | [d, g1] => { results := [.lit (.bool false)], args := [d], vars := [g1] }
  | _ => none }
def FnExactWavesWrongFalsely : Prop := fnExactWavesRow.holds Tryd.pinned (OpenSpec.ofChange fnExactWavesWrong)

/-- 'laws.FnExactMeanWind': WHATEVER THE INPUT: true; the input reads as it did. -/
def fnExactMeanWindSpec : ChangeSpec := { name := "fnExactMeanWind", vars := ["loop.example/g00051/impl.sines"], fn := fun _ => fun
  | [d, g1] => { results := [.lit (.bool true)], args := [d], vars := [g1] }
  | _ => none }
def fnExactMeanWindRow : OpenClaim := { program := "ytpileeenoocjpaadoor", sum := "e1affffc1523c64331515ce35c4dd3211c8617842a7b24061ec560246662b1fd", func := "loop.example/g00051/laws.FnExactMeanWind", spec := "fnExactMeanWind", inPlace := ["math.Float64bits", "math.Float64frombits"], named := ["loop.example/g00051/impl.sines"], apart := false, laid := [("loop.example/g00051/impl.sines", laid_loop_example_g00051_impl_sines)] }
def FnExactMeanWindSaid : Prop := fnExactMeanWindRow.holds Tryd.pinned (OpenSpec.ofChange fnExactMeanWindSpec)

/-- ITS FALSE NEIGHBOUR: 'it returns false'. Refute it at one input. -/
def fnExactMeanWindWrong : ChangeSpec := { name := "fnExactMeanWind", vars := ["loop.example/g00051/impl.sines"], fn := fun _ => fun
  | [d, g1] => { results := [.lit (.bool false)], args := [d], vars := [g1] }
  | _ => none }
def FnExactMeanWindWrongFalsely : Prop := fnExactMeanWindRow.holds Tryd.pinned (OpenSpec.ofChange fnExactMeanWindWrong)

/-- 'laws.FnExactUnwaves': WHATEVER THE INPUT: true; the input reads as it did. -/
def fnExactUnwavesSpec : ChangeSpec := { name := "fnExactUnwaves", vars := ["loop.example/g00051/impl.sines"], fn := fun _ => fun
  | [d, g1] => { results := [.lit (.bool true)], args := [d], vars := [g1] }
  | _ => none }
def fnExactUnwavesRow : OpenClaim := { program := "ytpileeenoocjpaadoor", sum := "e1affffc1523c64331515ce35c4dd3211c8617842a7b24061ec560246662b1fd", func := "loop.example/g00051/laws.FnExactUnwaves", spec := "fnExactUnwaves", named := ["loop.example/g00051/impl.sines"], apart := false, laid := [("loop.example/g00051/impl.sines", laid_loop_example_g00051_impl_sines)] }
def FnExactUnwavesSaid : Prop := fnExactUnwavesRow.holds Tryd.pinned (OpenSpec.ofChange fnExactUnwavesSpec)

/-- ITS FALSE NEIGHBOUR: 'it returns false'. Refute it at one input. -/
def fnExactUnwavesWrong : ChangeSpec := { name := "fnExactUnwaves", vars := ["loop.example/g00051/impl.sines"], fn := fun _ => fun
  | [d, g1] => { results := [.lit (.bool false)], args := [d], vars := [g1] }
  | _ => none }
def FnExactUnwavesWrongFalsely : Prop := fnExactUnwavesRow.holds Tryd.pinned (OpenSpec.ofChange fnExactUnwavesWrong)

/-- 'laws.FnExactRotate': WHATEVER THE INPUT: true; the input reads as it did. -/
def fnExactRotateSpec : ChangeSpec := { name := "fnExactRotate", vars := ["loop.example/g00051/impl.sines"], fn := fun _ => fun
  | [d1, d2, g1] => { results := [.lit (.bool true)], args := [d1, d2], vars := [g1] }
  | _ => none }
def fnExactRotateRow : OpenClaim := { program := "ytpileeenoocjpaadoor", sum := "e1affffc1523c64331515ce35c4dd3211c8617842a7b24061ec560246662b1fd", func := "loop.example/g00051/laws.FnExactRotate", spec := "fnExactRotate", named := ["loop.example/g00051/impl.sines"], apart := false, laid := [("loop.example/g00051/impl.sines", laid_loop_example_g00051_impl_sines)] }
def FnExactRotateSaid : Prop := fnExactRotateRow.holds Tryd.pinned (OpenSpec.ofChange fnExactRotateSpec)

/-- ITS FALSE NEIGHBOUR: 'it returns false'. Refute it at one input. -/
def fnExactRotateWrong : ChangeSpec := { name := "fnExactRotate", vars := ["loop.example/g00051/impl.sines"], fn := fun _ => fun
  | [d1, d2, g1] => { results := [.lit (.bool false)], args := [d1, d2], vars := [g1] }
  | _ => none }
def FnExactRotateWrongFalsely : Prop := fnExactRotateRow.holds Tryd.pinned (OpenSpec.ofChange fnExactRotateWrong)

/-- 'laws.FnWinds': WHATEVER THE INPUT: true; the input reads as it did. -/
def fnWindsSpec : ChangeSpec := { name := "fnWinds", vars := ["loop.example/g00051/impl.sines"], fn := fun _ => fun
  | [d, g1] => { results := [.lit (.bool true)], args := [d], vars := [g1] }
  | _ => none }
def fnWindsRow : OpenClaim := { program := "ytpileeenoocjpaadoor", sum := "e1affffc1523c64331515ce35c4dd3211c8617842a7b24061ec560246662b1fd", func := "loop.example/g00051/laws.FnWinds", spec := "fnWinds", inPlace := ["math.Float64bits", "math.Float64frombits"], named := ["loop.example/g00051/impl.sines"], apart := false, laid := [("loop.example/g00051/impl.sines", laid_loop_example_g00051_impl_sines)] }
def FnWindsSaid : Prop := fnWindsRow.holds Tryd.pinned (OpenSpec.ofChange fnWindsSpec)

/-- ITS FALSE NEIGHBOUR: 'it returns false'. Refute it at one input. -/
def fnWindsWrong : ChangeSpec := { name := "fnWinds", vars := ["loop.example/g00051/impl.sines"], fn := fun _ => fun
  | [d, g1] => { results := [.lit (.bool false)], args := [d], vars := [g1] }
  | _ => none }
def FnWindsWrongFalsely : Prop := fnWindsRow.holds Tryd.pinned (OpenSpec.ofChange fnWindsWrong)

/- THE SECOND FORM. 'bulk': how many values and letters a reading holds, each counted each time it is reached (what is shared counts as often as it is met; a slice's spare places count too). A statement '..UptoSaid' is the law's where the arguments, and the package variables that the reading takes, are together of bulk at most 1048576: NARROWER than '..Said'. Prove '..Said' where nothing that the law and all that it calls make is longer than what came in: it says more and counts as full. Else prove '..UptoSaid'. A law counts once. -/
mutual
def uptoBulk {H : Type} : DataW H → Nat
  | .lit (.string bytes) => bytes.length + 1
  | .lit _ => 1
  | .nil => 1
  | .ptr d => uptoBulk d + 1
  | .slice elems spare => uptoBulkAll elems + uptoBulkAll spare + 1
  | .agg parts => uptoBulkAll parts + 1
  | .iface _ d => uptoBulk d + 1
  | .map entries => uptoBulkEntries entries + 1
  | .held _ => 1
def uptoBulkAll {H : Type} : List (DataW H) → Nat
  | [] => 0
  | d :: r => uptoBulk d + uptoBulkAll r
def uptoBulkEntries {H : Type} : List (Lit × DataW H) → Nat
  | [] => 0
  | x :: r => uptoBulkEntry x + uptoBulkEntries r
def uptoBulkEntry {H : Type} : Lit × DataW H → Nat
  | (.string bytes, d) => bytes.length + uptoBulk d + 1
  | (_, d) => uptoBulk d + 1
 end
def uptoSmall : (H : Type) → List (DataW H) → Bool := fun _ ds => decide (uptoBulkAll ds ≤ 1048576)
def OpenSpec.upto (s : _root_.Go.ChangeSpec) : _root_.Go.OpenSpec := { _root_.Go.OpenSpec.ofChange s with cond := some uptoSmall }

/-- 'laws.FnExactHeight', WHERE WHAT IT READS IS OF BULK AT MOST 1048576: true; the input reads as it did. -/
def fnExactHeightUptoRow : OpenClaim := { program := "ytpileeenoocjpaadoor", sum := "e1affffc1523c64331515ce35c4dd3211c8617842a7b24061ec560246662b1fd", func := "loop.example/g00051/laws.FnExactHeight", spec := "fnExactHeight", inPlace := ["math.Float64frombits"], named := ["loop.example/g00051/impl.sines"], apart := false, laid := [("loop.example/g00051/impl.sines", laid_loop_example_g00051_impl_sines)], narrowed := true }
def FnExactHeightUptoSaid : Prop := fnExactHeightUptoRow.holds Tryd.pinned (OpenSpec.upto fnExactHeightSpec)

/-- 'laws.FnExactWaves', WHERE WHAT IT READS IS OF BULK AT MOST 1048576: true; the input reads as it did. -/
def fnExactWavesUptoRow : OpenClaim := { program := "ytpileeenoocjpaadoor", sum := "e1affffc1523c64331515ce35c4dd3211c8617842a7b24061ec560246662b1fd", func := "loop.example/g00051/laws.FnExactWaves", spec := "fnExactWaves", named := ["loop.example/g00051/impl.sines"], apart := false, laid := [("loop.example/g00051/impl.sines", laid_loop_example_g00051_impl_sines)], narrowed := true }
def FnExactWavesUptoSaid : Prop := fnExactWavesUptoRow.holds Tryd.pinned (OpenSpec.upto fnExactWavesSpec)

/-- 'laws.FnExactMeanWind', WHERE WHAT IT READS IS OF BULK AT MOST 1048576: true; the input reads as it did. -/
def fnExactMeanWindUptoRow : OpenClaim := { program := "ytpileeenoocjpaadoor", sum := "e1affffc1523c64331515ce35c4dd3211c8617842a7b24061ec560246662b1fd", func := "loop.example/g00051/laws.FnExactMeanWind", spec := "fnExactMeanWind", inPlace := ["math.Float64bits", "math.Float64frombits"], named := ["loop.example/g00051/impl.sines"], apart := false, laid := [("loop.example/g00051/impl.sines", laid_loop_example_g00051_impl_sines)], narrowed := true }
def FnExactMeanWindUptoSaid : Prop := fnExactMeanWindUptoRow.holds Tryd.pinned (OpenSpec.upto fnExactMeanWindSpec)

/-- 'laws.FnExactUnwaves', WHERE WHAT IT READS IS OF BULK AT MOST 1048576: true; the input reads as it did. -/
def fnExactUnwavesUptoRow : OpenClaim := { program := "ytpileeenoocjpaadoor", sum := "e1affffc1523c64331515ce35c4dd3211c8617842a7b24061ec560246662b1fd", func := "loop.example/g00051/laws.FnExactUnwaves", spec := "fnExactUnwaves", named := ["loop.example/g00051/impl.sines"], apart := false, laid := [("loop.example/g00051/impl.sines", laid_loop_example_g00051_impl_sines)], narrowed := true }
def FnExactUnwavesUptoSaid : Prop := fnExactUnwavesUptoRow.holds Tryd.pinned (OpenSpec.upto fnExactUnwavesSpec)

/-- 'laws.FnExactRotate', WHERE WHAT IT READS IS OF BULK AT MOST 1048576: true; the input reads as it did. -/
def fnExactRotateUptoRow : OpenClaim := { program := "ytpileeenoocjpaadoor", sum := "e1affffc1523c64331515ce35c4dd3211c8617842a7b24061ec560246662b1fd", func := "loop.example/g00051/laws.FnExactRotate", spec := "fnExactRotate", named := ["loop.example/g00051/impl.sines"], apart := false, laid := [("loop.example/g00051/impl.sines", laid_loop_example_g00051_impl_sines)], narrowed := true }
def FnExactRotateUptoSaid : Prop := fnExactRotateUptoRow.holds Tryd.pinned (OpenSpec.upto fnExactRotateSpec)

/-- 'laws.FnWinds', WHERE WHAT IT READS IS OF BULK AT MOST 1048576: true; the input reads as it did. -/
def fnWindsUptoRow : OpenClaim := { program := "ytpileeenoocjpaadoor", sum := "e1affffc1523c64331515ce35c4dd3211c8617842a7b24061ec560246662b1fd", func := "loop.example/g00051/laws.FnWinds", spec := "fnWinds", inPlace := ["math.Float64bits", "math.Float64frombits"], named := ["loop.example/g00051/impl.sines"], apart := false, laid := [("loop.example/g00051/impl.sines", laid_loop_example_g00051_impl_sines)], narrowed := true }
def FnWindsUptoSaid : Prop := fnWindsUptoRow.holds Tryd.pinned (OpenSpec.upto fnWindsSpec)

end Rows
end Go.Proofs.YtpileeenoocjpaaDoor
