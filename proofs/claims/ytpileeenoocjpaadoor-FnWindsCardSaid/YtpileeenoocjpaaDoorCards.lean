/-
  DERIVED. GIVEN WITH THE SEED: THE CARDS: each row of YtpileeenoocjpaaDoorRows.lean that lists a variable, with what it lists TIED to the program's text (the seventh form; the later family's looks); each row that meets fmt, with fmt's text TOLD by the authors' own Lean function (tested against real Go, not proved from fmt's source: count such statements apart). THE CARD IS WHAT COUNTS. Prove the row's statement (the work); the ties are given (YtpileeenoocjpaaDoorTie.lean); close each card by the builder's one call (the guide's Derived/Test/ToyasCard.lean, 'card_holds'). Laid BY PROGRAM, IN A SANDBOX (cutbox-door.mjs). By AI agents, Wed Nov 11 2026. No macro, syntax, notation, axiom, sorry.
-/
import Derived.Test.YtpileeenoocjpaaDoorRows
import GoSem.ClaimSeven
namespace Go.Proofs.YtpileeenoocjpaaDoor
namespace Rows

/-- THE TIED CARD OF 'laws.FnExactHeight'. -/
def fnExactHeightCard : Claim7 := { stood := { row := fnExactHeightRow, standIns := [], harness := (true, "e401df2e013a4b1d888d48a0e180ef51190829ee4a958ff15f26577a3f48bc42"), looks := false }, kinds := [], alts := [], laidByText := true, laidKinds := [.data], laidTests := true, laidLooks := .later }
def FnExactHeightCardSaid : Prop := Claim7.holds Tryd.pinned (.plain (OpenSpec.ofChange fnExactHeightSpec)) fnExactHeightCard

/-- THE TIED CARD OF 'laws.FnExactWaves'. -/
def fnExactWavesCard : Claim7 := { stood := { row := fnExactWavesRow, standIns := [], harness := (true, "e401df2e013a4b1d888d48a0e180ef51190829ee4a958ff15f26577a3f48bc42"), looks := false }, kinds := [], alts := [], laidByText := true, laidKinds := [.data], laidTests := true, laidLooks := .later }
def FnExactWavesCardSaid : Prop := Claim7.holds Tryd.pinned (.plain (OpenSpec.ofChange fnExactWavesSpec)) fnExactWavesCard

/-- THE TIED CARD OF 'laws.FnExactMeanWind'. -/
def fnExactMeanWindCard : Claim7 := { stood := { row := fnExactMeanWindRow, standIns := [], harness := (true, "e401df2e013a4b1d888d48a0e180ef51190829ee4a958ff15f26577a3f48bc42"), looks := false }, kinds := [], alts := [], laidByText := true, laidKinds := [.data], laidTests := true, laidLooks := .later }
def FnExactMeanWindCardSaid : Prop := Claim7.holds Tryd.pinned (.plain (OpenSpec.ofChange fnExactMeanWindSpec)) fnExactMeanWindCard

/-- THE TIED CARD OF 'laws.FnExactUnwaves'. -/
def fnExactUnwavesCard : Claim7 := { stood := { row := fnExactUnwavesRow, standIns := [], harness := (true, "e401df2e013a4b1d888d48a0e180ef51190829ee4a958ff15f26577a3f48bc42"), looks := false }, kinds := [], alts := [], laidByText := true, laidKinds := [.data], laidTests := true, laidLooks := .later }
def FnExactUnwavesCardSaid : Prop := Claim7.holds Tryd.pinned (.plain (OpenSpec.ofChange fnExactUnwavesSpec)) fnExactUnwavesCard

/-- THE TIED CARD OF 'laws.FnExactRotate'. -/
def fnExactRotateCard : Claim7 := { stood := { row := fnExactRotateRow, standIns := [], harness := (true, "e401df2e013a4b1d888d48a0e180ef51190829ee4a958ff15f26577a3f48bc42"), looks := false }, kinds := [], alts := [], laidByText := true, laidKinds := [.data], laidTests := true, laidLooks := .later }
def FnExactRotateCardSaid : Prop := Claim7.holds Tryd.pinned (.plain (OpenSpec.ofChange fnExactRotateSpec)) fnExactRotateCard

/-- THE TIED CARD OF 'laws.FnWinds'. -/
def fnWindsCard : Claim7 := { stood := { row := fnWindsRow, standIns := [], harness := (true, "e401df2e013a4b1d888d48a0e180ef51190829ee4a958ff15f26577a3f48bc42"), looks := false }, kinds := [], alts := [], laidByText := true, laidKinds := [.data], laidTests := true, laidLooks := .later }
def FnWindsCardSaid : Prop := Claim7.holds Tryd.pinned (.plain (OpenSpec.ofChange fnWindsSpec)) fnWindsCard

/-- THE SECOND FORM's CARD OF 'laws.FnExactHeight'. -/
def fnExactHeightUptoCard : Claim7 := { stood := { row := fnExactHeightUptoRow, standIns := [], harness := (true, "e401df2e013a4b1d888d48a0e180ef51190829ee4a958ff15f26577a3f48bc42"), looks := false }, kinds := [], alts := [], laidByText := true, laidKinds := [.data], laidTests := true, laidLooks := .later }
def FnExactHeightUptoCardSaid : Prop := Claim7.holds Tryd.pinned (.plain (OpenSpec.upto fnExactHeightSpec)) fnExactHeightUptoCard

/-- THE SECOND FORM's CARD OF 'laws.FnExactWaves'. -/
def fnExactWavesUptoCard : Claim7 := { stood := { row := fnExactWavesUptoRow, standIns := [], harness := (true, "e401df2e013a4b1d888d48a0e180ef51190829ee4a958ff15f26577a3f48bc42"), looks := false }, kinds := [], alts := [], laidByText := true, laidKinds := [.data], laidTests := true, laidLooks := .later }
def FnExactWavesUptoCardSaid : Prop := Claim7.holds Tryd.pinned (.plain (OpenSpec.upto fnExactWavesSpec)) fnExactWavesUptoCard

/-- THE SECOND FORM's CARD OF 'laws.FnExactMeanWind'. -/
def fnExactMeanWindUptoCard : Claim7 := { stood := { row := fnExactMeanWindUptoRow, standIns := [], harness := (true, "e401df2e013a4b1d888d48a0e180ef51190829ee4a958ff15f26577a3f48bc42"), looks := false }, kinds := [], alts := [], laidByText := true, laidKinds := [.data], laidTests := true, laidLooks := .later }
def FnExactMeanWindUptoCardSaid : Prop := Claim7.holds Tryd.pinned (.plain (OpenSpec.upto fnExactMeanWindSpec)) fnExactMeanWindUptoCard

/-- THE SECOND FORM's CARD OF 'laws.FnExactUnwaves'. -/
def fnExactUnwavesUptoCard : Claim7 := { stood := { row := fnExactUnwavesUptoRow, standIns := [], harness := (true, "e401df2e013a4b1d888d48a0e180ef51190829ee4a958ff15f26577a3f48bc42"), looks := false }, kinds := [], alts := [], laidByText := true, laidKinds := [.data], laidTests := true, laidLooks := .later }
def FnExactUnwavesUptoCardSaid : Prop := Claim7.holds Tryd.pinned (.plain (OpenSpec.upto fnExactUnwavesSpec)) fnExactUnwavesUptoCard

/-- THE SECOND FORM's CARD OF 'laws.FnExactRotate'. -/
def fnExactRotateUptoCard : Claim7 := { stood := { row := fnExactRotateUptoRow, standIns := [], harness := (true, "e401df2e013a4b1d888d48a0e180ef51190829ee4a958ff15f26577a3f48bc42"), looks := false }, kinds := [], alts := [], laidByText := true, laidKinds := [.data], laidTests := true, laidLooks := .later }
def FnExactRotateUptoCardSaid : Prop := Claim7.holds Tryd.pinned (.plain (OpenSpec.upto fnExactRotateSpec)) fnExactRotateUptoCard

/-- THE SECOND FORM's CARD OF 'laws.FnWinds'. -/
def fnWindsUptoCard : Claim7 := { stood := { row := fnWindsUptoRow, standIns := [], harness := (true, "e401df2e013a4b1d888d48a0e180ef51190829ee4a958ff15f26577a3f48bc42"), looks := false }, kinds := [], alts := [], laidByText := true, laidKinds := [.data], laidTests := true, laidLooks := .later }
def FnWindsUptoCardSaid : Prop := Claim7.holds Tryd.pinned (.plain (OpenSpec.upto fnWindsSpec)) fnWindsUptoCard
end Rows
end Go.Proofs.YtpileeenoocjpaaDoor
