/-
  DERIVED. GIVEN WITH THE SEED: THE CARDS: each row of YtcdghhihfjojaaaDoorRows.lean that lists a variable, with what it lists TIED to the program's text (the seventh form; the later family's looks); each row that meets fmt, with fmt's text TOLD by the authors' own Lean function (tested against real Go, not proved from fmt's source: count such statements apart). THE CARD IS WHAT COUNTS. Prove the row's statement (the work); the ties are given (YtcdghhihfjojaaaDoorTie.lean); close each card by the builder's one call (the guide's Derived/Test/ToyasCard.lean, 'card_holds'). Laid BY PROGRAM, IN A SANDBOX (cutbox-door.mjs). By AI agents, Wed Nov 11 2026. No macro, syntax, notation, axiom, sorry.
-/
import Derived.Test.YtcdghhihfjojaaaDoorRows
import GoSem.ClaimSeven
namespace Go.Proofs.YtcdghhihfjojaaaDoor
namespace Rows

/-- THE TIED CARD OF 'laws.FnExactClean'. -/
def fnExactCleanCard : Claim7 := { stood := { row := fnExactCleanRow, standIns := [], harness := (true, "a0f2103c5f4a0bc64353cb90476d8883aa8ce4507f5949dcd252285ae2daa14a"), looks := false }, kinds := [], alts := [], laidByText := true, laidKinds := [.data, .pinned], laidTests := true, laidLooks := .later }
def FnExactCleanCardSaid : Prop := Claim7.holds Tryd.pinned (.plain (OpenSpec.ofChange fnExactCleanSpec)) fnExactCleanCard

/-- THE TIED CARD OF 'laws.FnExactUpper'. -/
def fnExactUpperCard : Claim7 := { stood := { row := fnExactUpperRow, standIns := [], harness := (true, "a0f2103c5f4a0bc64353cb90476d8883aa8ce4507f5949dcd252285ae2daa14a"), looks := false }, kinds := [], alts := [], laidByText := true, laidKinds := [.data, .mapped, .pinned], laidTests := true, laidLooks := .later }
def FnExactUpperCardSaid : Prop := Claim7.holds Tryd.pinned (.plain (OpenSpec.ofChange fnExactUpperSpec)) fnExactUpperCard

/-- THE SECOND FORM's CARD OF 'laws.FnExactClean'. -/
def fnExactCleanUptoCard : Claim7 := { stood := { row := fnExactCleanUptoRow, standIns := [], harness := (true, "a0f2103c5f4a0bc64353cb90476d8883aa8ce4507f5949dcd252285ae2daa14a"), looks := false }, kinds := [], alts := [], laidByText := true, laidKinds := [.data, .pinned], laidTests := true, laidLooks := .later }
def FnExactCleanUptoCardSaid : Prop := Claim7.holds Tryd.pinned (.plain (OpenSpec.upto fnExactCleanSpec)) fnExactCleanUptoCard

/-- THE SECOND FORM's CARD OF 'laws.FnExactUpper'. -/
def fnExactUpperUptoCard : Claim7 := { stood := { row := fnExactUpperUptoRow, standIns := [], harness := (true, "a0f2103c5f4a0bc64353cb90476d8883aa8ce4507f5949dcd252285ae2daa14a"), looks := false }, kinds := [], alts := [], laidByText := true, laidKinds := [.data, .mapped, .pinned], laidTests := true, laidLooks := .later }
def FnExactUpperUptoCardSaid : Prop := Claim7.holds Tryd.pinned (.plain (OpenSpec.upto fnExactUpperSpec)) fnExactUpperUptoCard
end Rows
end Go.Proofs.YtcdghhihfjojaaaDoor
