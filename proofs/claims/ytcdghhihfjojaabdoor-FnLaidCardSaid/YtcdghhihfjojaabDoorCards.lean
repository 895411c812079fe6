/-
  DERIVED. GIVEN WITH THE SEED: THE CARDS: each row of YtcdghhihfjojaabDoorRows.lean that lists a variable, with what it lists TIED to the program's text (the seventh form; the later family's looks); each row that meets fmt, with fmt's text TOLD by the authors' own Lean function (tested against real Go, not proved from fmt's source: count such statements apart). THE CARD IS WHAT COUNTS. Prove the row's statement (the work); the ties are given (YtcdghhihfjojaabDoorTie.lean); close each card by the builder's one call (the guide's Derived/Test/ToyasCard.lean, 'card_holds'). Laid BY PROGRAM, IN A SANDBOX (cutbox-door.mjs). By AI agents, Wed Nov 11 2026. No macro, syntax, notation, axiom, sorry.
-/
import Derived.Test.YtcdghhihfjojaabDoorRows
import GoSem.ClaimSeven
namespace Go.Proofs.YtcdghhihfjojaabDoor
namespace Rows

/-- THE TIED CARD OF 'laws.FnExactLaid'. -/
def fnExactLaidCard : Claim7 := { stood := { row := fnExactLaidRow, standIns := [], harness := (true, "8228b5d1701f036e2e5089cbc8f9ebd395e89adb8dd09b1c6a491e87c186b89c"), looks := false }, kinds := [], alts := [], laidByText := true, laidKinds := [.widerDeep, .widerDeep], laidTests := true, laidLooks := .later }
def FnExactLaidCardSaid : Prop := Claim7.holds Tryd.pinned (.plain (OpenSpec.ofChange fnExactLaidSpec)) fnExactLaidCard

/-- THE TIED CARD OF 'laws.FnLaid'. -/
def fnLaidCard : Claim7 := { stood := { row := fnLaidRow, standIns := [], harness := (true, "8228b5d1701f036e2e5089cbc8f9ebd395e89adb8dd09b1c6a491e87c186b89c"), looks := false }, kinds := [], alts := [], laidByText := true, laidKinds := [.widerDeep, .widerDeep], laidTests := true, laidLooks := .later }
def FnLaidCardSaid : Prop := Claim7.holds Tryd.pinned (.plain (OpenSpec.ofChange fnLaidSpec)) fnLaidCard

/-- THE SECOND FORM's CARD OF 'laws.FnExactLaid'. -/
def fnExactLaidUptoCard : Claim7 := { stood := { row := fnExactLaidUptoRow, standIns := [], harness := (true, "8228b5d1701f036e2e5089cbc8f9ebd395e89adb8dd09b1c6a491e87c186b89c"), looks := false }, kinds := [], alts := [], laidByText := true, laidKinds := [.widerDeep, .widerDeep], laidTests := true, laidLooks := .later }
def FnExactLaidUptoCardSaid : Prop := Claim7.holds Tryd.pinned (.plain (OpenSpec.upto fnExactLaidSpec)) fnExactLaidUptoCard

/-- THE SECOND FORM's CARD OF 'laws.FnLaid'. -/
def fnLaidUptoCard : Claim7 := { stood := { row := fnLaidUptoRow, standIns := [], harness := (true, "8228b5d1701f036e2e5089cbc8f9ebd395e89adb8dd09b1c6a491e87c186b89c"), looks := false }, kinds := [], alts := [], laidByText := true, laidKinds := [.widerDeep, .widerDeep], laidTests := true, laidLooks := .later }
def FnLaidUptoCardSaid : Prop := Claim7.holds Tryd.pinned (.plain (OpenSpec.upto fnLaidSpec)) fnLaidUptoCard
end Rows
end Go.Proofs.YtcdghhihfjojaabDoor
