/-
  DERIVED. GIVEN WITH THE SEED: THE CARDS: each row of YtmndffnjejgfoabDoorRows.lean that lists a variable, with what it lists TIED to the program's text (the seventh form; the later family's looks); each row that meets fmt, with fmt's text TOLD by the authors' own Lean function (tested against real Go, not proved from fmt's source: count such statements apart). THE CARD IS WHAT COUNTS. Prove the row's statement (the work); the ties are given (YtmndffnjejgfoabDoorTie.lean); close each card by the builder's one call (the guide's Derived/Test/ToyasCard.lean, 'card_holds'). Laid BY PROGRAM, IN A SANDBOX (cutbox-door.mjs). By AI agents, Wed Nov 11 2026. No macro, syntax, notation, axiom, sorry.
-/
import Derived.Test.YtmndffnjejgfoabDoorRows
import GoSem.ClaimSeven
namespace Go.Proofs.YtmndffnjejgfoabDoor
namespace Rows

/-- THE TIED CARD OF 'laws.FnExactClosed'. -/
def fnExactClosedCard : Claim7 := { stood := { row := fnExactClosedRow, standIns := [], harness := (true, "17ebb3ce1a859ba4771b3957b03397eeb78d277df21b32546541ae40e6d1fd7d"), looks := false }, kinds := [], alts := [], laidByText := true, laidKinds := [.data, .data], laidTests := true, laidLooks := .later }
def FnExactClosedCardSaid : Prop := Claim7.holds Tryd.pinned (.plain (OpenSpec.ofChange fnExactClosedSpec)) fnExactClosedCard

/-- THE TIED CARD OF 'laws.FnExactArea'. -/
def fnExactAreaCard : Claim7 := { stood := { row := fnExactAreaRow, standIns := [], harness := (true, "17ebb3ce1a859ba4771b3957b03397eeb78d277df21b32546541ae40e6d1fd7d"), looks := false }, kinds := [], alts := [], laidByText := true, laidKinds := [.data, .data], laidTests := true, laidLooks := .later }
def FnExactAreaCardSaid : Prop := Claim7.holds Tryd.pinned (.plain (OpenSpec.ofChange fnExactAreaSpec)) fnExactAreaCard

/-- THE TIED CARD OF 'laws.FnExactWinds'. -/
def fnExactWindsCard : Claim7 := { stood := { row := fnExactWindsRow, standIns := [], harness := (true, "17ebb3ce1a859ba4771b3957b03397eeb78d277df21b32546541ae40e6d1fd7d"), looks := false }, kinds := [], alts := [], laidByText := true, laidKinds := [.data, .data], laidTests := true, laidLooks := .later }
def FnExactWindsCardSaid : Prop := Claim7.holds Tryd.pinned (.plain (OpenSpec.ofChange fnExactWindsSpec)) fnExactWindsCard

/-- THE SECOND FORM's CARD OF 'laws.FnExactClosed'. -/
def fnExactClosedUptoCard : Claim7 := { stood := { row := fnExactClosedUptoRow, standIns := [], harness := (true, "17ebb3ce1a859ba4771b3957b03397eeb78d277df21b32546541ae40e6d1fd7d"), looks := false }, kinds := [], alts := [], laidByText := true, laidKinds := [.data, .data], laidTests := true, laidLooks := .later }
def FnExactClosedUptoCardSaid : Prop := Claim7.holds Tryd.pinned (.plain (OpenSpec.upto fnExactClosedSpec)) fnExactClosedUptoCard

/-- THE SECOND FORM's CARD OF 'laws.FnExactArea'. -/
def fnExactAreaUptoCard : Claim7 := { stood := { row := fnExactAreaUptoRow, standIns := [], harness := (true, "17ebb3ce1a859ba4771b3957b03397eeb78d277df21b32546541ae40e6d1fd7d"), looks := false }, kinds := [], alts := [], laidByText := true, laidKinds := [.data, .data], laidTests := true, laidLooks := .later }
def FnExactAreaUptoCardSaid : Prop := Claim7.holds Tryd.pinned (.plain (OpenSpec.upto fnExactAreaSpec)) fnExactAreaUptoCard

/-- THE SECOND FORM's CARD OF 'laws.FnExactWinds'. -/
def fnExactWindsUptoCard : Claim7 := { stood := { row := fnExactWindsUptoRow, standIns := [], harness := (true, "17ebb3ce1a859ba4771b3957b03397eeb78d277df21b32546541ae40e6d1fd7d"), looks := false }, kinds := [], alts := [], laidByText := true, laidKinds := [.data, .data], laidTests := true, laidLooks := .later }
def FnExactWindsUptoCardSaid : Prop := Claim7.holds Tryd.pinned (.plain (OpenSpec.upto fnExactWindsSpec)) fnExactWindsUptoCard
end Rows
end Go.Proofs.YtmndffnjejgfoabDoor
