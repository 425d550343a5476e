/-
  DERIVED. GIVEN WITH THE SEED: THE CARDS: each row of YtiaccdaeomaogaaDoorRows.lean that lists a variable, with what it lists TIED to the program's text (the seventh form; the later family's looks); each row that meets fmt, with fmt's text TOLD by the authors' own Lean function (tested against real Go, not proved from fmt's source: count such statements apart). THE CARD IS WHAT COUNTS. Prove the row's statement (the work); the ties are given (YtiaccdaeomaogaaDoorTie.lean); close each card by the builder's one call (the guide's Derived/Test/ToyasCard.lean, 'card_holds'). Laid BY PROGRAM, IN A SANDBOX (cutbox-door.mjs). By AI agents, Wed Nov 11 2026. No macro, syntax, notation, axiom, sorry.
-/
import Derived.Test.YtiaccdaeomaogaaDoorRows
import GoSem.ClaimSeven
namespace Go.Proofs.YtiaccdaeomaogaaDoor
namespace Rows

/-- THE TIED CARD OF 'malthouselaw09.RungChecks'. -/
def rungChecksCard : Claim7 := { stood := { row := rungChecksRow, standIns := [], harness := (true, "079ea68e285a7da177931aa39eb9b19433f6f591bbd0ae183c8f0dc826d171dd"), looks := true }, kinds := [], alts := [], laidByText := true, laidKinds := [.data, .pinned], laidTests := true, laidLooks := .later }
def RungChecksCardSaid : Prop := Claim7.holds Tryd.pinned (.plain (OpenSpec.ofChange rungChecksSpec)) rungChecksCard

/-- THE TIED CARD OF 'malthouselaw09.RungHolds'. -/
def rungHoldsCard : Claim7 := { stood := { row := rungHoldsRow, standIns := [], harness := (true, "079ea68e285a7da177931aa39eb9b19433f6f591bbd0ae183c8f0dc826d171dd"), looks := true }, kinds := [], alts := [], laidByText := true, laidKinds := [.data, .pinned], laidTests := true, laidLooks := .later }
def RungHoldsCardSaid : Prop := Claim7.holds Tryd.pinned (.plain (OpenSpec.ofChange rungHoldsSpec)) rungHoldsCard

/-- THE TIED CARD OF 'malthouselaw09.RungTurns'. -/
def rungTurnsCard : Claim7 := { stood := { row := rungTurnsRow, standIns := [], harness := (true, "079ea68e285a7da177931aa39eb9b19433f6f591bbd0ae183c8f0dc826d171dd"), looks := true }, kinds := [], alts := [], laidByText := true, laidKinds := [.data, .pinned], laidTests := true, laidLooks := .later }
def RungTurnsCardSaid : Prop := Claim7.holds Tryd.pinned (.plain (OpenSpec.ofChange rungTurnsSpec)) rungTurnsCard

/-- THE TIED CARD OF 'malthouselaw09.RungBehind'. -/
def rungBehindCard : Claim7 := { stood := { row := rungBehindRow, standIns := [], harness := (true, "079ea68e285a7da177931aa39eb9b19433f6f591bbd0ae183c8f0dc826d171dd"), looks := true }, kinds := [], alts := [], laidByText := true, laidKinds := [.data, .pinned], laidTests := true, laidLooks := .later }
def RungBehindCardSaid : Prop := Claim7.holds Tryd.pinned (.plain (OpenSpec.ofChange rungBehindSpec)) rungBehindCard

/-- THE TIED CARD OF 'malthouselaw09.RungRises'. -/
def rungRisesCard : Claim7 := { stood := { row := rungRisesRow, standIns := [], harness := (true, "079ea68e285a7da177931aa39eb9b19433f6f591bbd0ae183c8f0dc826d171dd"), looks := true }, kinds := [], alts := [], laidByText := true, laidKinds := [.data, .pinned], laidTests := true, laidLooks := .later }
def RungRisesCardSaid : Prop := Claim7.holds Tryd.pinned (.plain (OpenSpec.ofChange rungRisesSpec)) rungRisesCard

/-- THE TIED CARD OF 'malthouselaw09.RungLatches'. -/
def rungLatchesCard : Claim7 := { stood := { row := rungLatchesRow, standIns := [], harness := (true, "079ea68e285a7da177931aa39eb9b19433f6f591bbd0ae183c8f0dc826d171dd"), looks := true }, kinds := [], alts := [], laidByText := true, laidKinds := [.data, .pinned], laidTests := true, laidLooks := .later }
def RungLatchesCardSaid : Prop := Claim7.holds Tryd.pinned (.plain (OpenSpec.ofChange rungLatchesSpec)) rungLatchesCard

/-- THE TIED CARD OF 'malthouselaw11.ProgScans'. -/
def progScansCard : Claim7 := { stood := { row := progScansRow, standIns := [], harness := (true, "079ea68e285a7da177931aa39eb9b19433f6f591bbd0ae183c8f0dc826d171dd"), looks := true }, kinds := [], alts := [], laidByText := true, laidKinds := [.data, .pinned], laidTests := true, laidLooks := .later }
def ProgScansCardSaid : Prop := Claim7.holds Tryd.pinned (.plain (OpenSpec.ofChange progScansSpec)) progScansCard

/-- THE TIED CARD OF 'malthouselaw11.ProgStays'. -/
def progStaysCard : Claim7 := { stood := { row := progStaysRow, standIns := [], harness := (true, "079ea68e285a7da177931aa39eb9b19433f6f591bbd0ae183c8f0dc826d171dd"), looks := true }, kinds := [], alts := [], laidByText := true, laidKinds := [.data, .pinned], laidTests := true, laidLooks := .later }
def ProgStaysCardSaid : Prop := Claim7.holds Tryd.pinned (.plain (OpenSpec.ofChange progStaysSpec)) progStaysCard

/-- THE TIED CARD OF 'malthouselaw11.ProgDelays'. -/
def progDelaysCard : Claim7 := { stood := { row := progDelaysRow, standIns := [], harness := (true, "079ea68e285a7da177931aa39eb9b19433f6f591bbd0ae183c8f0dc826d171dd"), looks := true }, kinds := [], alts := [], laidByText := true, laidKinds := [.data, .pinned], laidTests := true, laidLooks := .later }
def ProgDelaysCardSaid : Prop := Claim7.holds Tryd.pinned (.plain (OpenSpec.ofChange progDelaysSpec)) progDelaysCard

/-- THE TIED CARD OF 'malthouselaw11.ProgWants'. -/
def progWantsCard : Claim7 := { stood := { row := progWantsRow, standIns := [], harness := (true, "079ea68e285a7da177931aa39eb9b19433f6f591bbd0ae183c8f0dc826d171dd"), looks := true }, kinds := [], alts := [], laidByText := true, laidKinds := [.data, .pinned], laidTests := true, laidLooks := .later }
def ProgWantsCardSaid : Prop := Claim7.holds Tryd.pinned (.plain (OpenSpec.ofChange progWantsSpec)) progWantsCard

/-- THE TIED CARD OF 'malthouselaw11.ProgChecks'. -/
def progChecksCard : Claim7 := { stood := { row := progChecksRow, standIns := [], harness := (true, "079ea68e285a7da177931aa39eb9b19433f6f591bbd0ae183c8f0dc826d171dd"), looks := true }, kinds := [], alts := [], laidByText := true, laidKinds := [.data, .pinned], laidTests := true, laidLooks := .later }
def ProgChecksCardSaid : Prop := Claim7.holds Tryd.pinned (.plain (OpenSpec.ofChange progChecksSpec)) progChecksCard

/-- THE TIED CARD OF 'malthouselaw11.ProgEnds'. -/
def progEndsCard : Claim7 := { stood := { row := progEndsRow, standIns := [], harness := (true, "079ea68e285a7da177931aa39eb9b19433f6f591bbd0ae183c8f0dc826d171dd"), looks := true }, kinds := [], alts := [], laidByText := true, laidKinds := [.data, .pinned], laidTests := true, laidLooks := .later }
def ProgEndsCardSaid : Prop := Claim7.holds Tryd.pinned (.plain (OpenSpec.ofChange progEndsSpec)) progEndsCard

/-- THE TIED CARD OF 'malthouselaw12.PhaseKeeps'. -/
def phaseKeepsCard : Claim7 := { stood := { row := phaseKeepsRow, standIns := [], harness := (true, "079ea68e285a7da177931aa39eb9b19433f6f591bbd0ae183c8f0dc826d171dd"), looks := true }, kinds := [], alts := [], laidByText := true, laidKinds := [.data, .pinned], laidTests := true, laidLooks := .later }
def PhaseKeepsCardSaid : Prop := Claim7.holds Tryd.pinned (.plain (OpenSpec.ofChange phaseKeepsSpec)) phaseKeepsCard

/-- THE TIED CARD OF 'malthouselaw12.PhaseAborts'. -/
def phaseAbortsCard : Claim7 := { stood := { row := phaseAbortsRow, standIns := [], harness := (true, "079ea68e285a7da177931aa39eb9b19433f6f591bbd0ae183c8f0dc826d171dd"), looks := true }, kinds := [], alts := [], laidByText := true, laidKinds := [.data, .pinned], laidTests := true, laidLooks := .later }
def PhaseAbortsCardSaid : Prop := Claim7.holds Tryd.pinned (.plain (OpenSpec.ofChange phaseAbortsSpec)) phaseAbortsCard

/-- THE TIED CARD OF 'malthouselaw12.PhaseStarts'. -/
def phaseStartsCard : Claim7 := { stood := { row := phaseStartsRow, standIns := [], harness := (true, "079ea68e285a7da177931aa39eb9b19433f6f591bbd0ae183c8f0dc826d171dd"), looks := true }, kinds := [], alts := [], laidByText := true, laidKinds := [.data, .pinned], laidTests := true, laidLooks := .later }
def PhaseStartsCardSaid : Prop := Claim7.holds Tryd.pinned (.plain (OpenSpec.ofChange phaseStartsSpec)) phaseStartsCard

/-- THE TIED CARD OF 'malthouselaw12.PhaseArgs'. -/
def phaseArgsCard : Claim7 := { stood := { row := phaseArgsRow, standIns := [], harness := (true, "079ea68e285a7da177931aa39eb9b19433f6f591bbd0ae183c8f0dc826d171dd"), looks := true }, kinds := [], alts := [], laidByText := true, laidKinds := [.data, .pinned], laidTests := true, laidLooks := .later }
def PhaseArgsCardSaid : Prop := Claim7.holds Tryd.pinned (.plain (OpenSpec.ofChange phaseArgsSpec)) phaseArgsCard

/-- THE SECOND FORM's CARD OF 'malthouselaw09.RungChecks'. -/
def rungChecksUptoCard : Claim7 := { stood := { row := rungChecksUptoRow, standIns := [], harness := (true, "079ea68e285a7da177931aa39eb9b19433f6f591bbd0ae183c8f0dc826d171dd"), looks := true }, kinds := [], alts := [], laidByText := true, laidKinds := [.data, .pinned], laidTests := true, laidLooks := .later }
def RungChecksUptoCardSaid : Prop := Claim7.holds Tryd.pinned (.plain (OpenSpec.upto rungChecksSpec)) rungChecksUptoCard

/-- THE SECOND FORM's CARD OF 'malthouselaw09.RungHolds'. -/
def rungHoldsUptoCard : Claim7 := { stood := { row := rungHoldsUptoRow, standIns := [], harness := (true, "079ea68e285a7da177931aa39eb9b19433f6f591bbd0ae183c8f0dc826d171dd"), looks := true }, kinds := [], alts := [], laidByText := true, laidKinds := [.data, .pinned], laidTests := true, laidLooks := .later }
def RungHoldsUptoCardSaid : Prop := Claim7.holds Tryd.pinned (.plain (OpenSpec.upto rungHoldsSpec)) rungHoldsUptoCard

/-- THE SECOND FORM's CARD OF 'malthouselaw09.RungTurns'. -/
def rungTurnsUptoCard : Claim7 := { stood := { row := rungTurnsUptoRow, standIns := [], harness := (true, "079ea68e285a7da177931aa39eb9b19433f6f591bbd0ae183c8f0dc826d171dd"), looks := true }, kinds := [], alts := [], laidByText := true, laidKinds := [.data, .pinned], laidTests := true, laidLooks := .later }
def RungTurnsUptoCardSaid : Prop := Claim7.holds Tryd.pinned (.plain (OpenSpec.upto rungTurnsSpec)) rungTurnsUptoCard

/-- THE SECOND FORM's CARD OF 'malthouselaw09.RungBehind'. -/
def rungBehindUptoCard : Claim7 := { stood := { row := rungBehindUptoRow, standIns := [], harness := (true, "079ea68e285a7da177931aa39eb9b19433f6f591bbd0ae183c8f0dc826d171dd"), looks := true }, kinds := [], alts := [], laidByText := true, laidKinds := [.data, .pinned], laidTests := true, laidLooks := .later }
def RungBehindUptoCardSaid : Prop := Claim7.holds Tryd.pinned (.plain (OpenSpec.upto rungBehindSpec)) rungBehindUptoCard

/-- THE SECOND FORM's CARD OF 'malthouselaw09.RungRises'. -/
def rungRisesUptoCard : Claim7 := { stood := { row := rungRisesUptoRow, standIns := [], harness := (true, "079ea68e285a7da177931aa39eb9b19433f6f591bbd0ae183c8f0dc826d171dd"), looks := true }, kinds := [], alts := [], laidByText := true, laidKinds := [.data, .pinned], laidTests := true, laidLooks := .later }
def RungRisesUptoCardSaid : Prop := Claim7.holds Tryd.pinned (.plain (OpenSpec.upto rungRisesSpec)) rungRisesUptoCard

/-- THE SECOND FORM's CARD OF 'malthouselaw09.RungLatches'. -/
def rungLatchesUptoCard : Claim7 := { stood := { row := rungLatchesUptoRow, standIns := [], harness := (true, "079ea68e285a7da177931aa39eb9b19433f6f591bbd0ae183c8f0dc826d171dd"), looks := true }, kinds := [], alts := [], laidByText := true, laidKinds := [.data, .pinned], laidTests := true, laidLooks := .later }
def RungLatchesUptoCardSaid : Prop := Claim7.holds Tryd.pinned (.plain (OpenSpec.upto rungLatchesSpec)) rungLatchesUptoCard

/-- THE SECOND FORM's CARD OF 'malthouselaw11.ProgScans'. -/
def progScansUptoCard : Claim7 := { stood := { row := progScansUptoRow, standIns := [], harness := (true, "079ea68e285a7da177931aa39eb9b19433f6f591bbd0ae183c8f0dc826d171dd"), looks := true }, kinds := [], alts := [], laidByText := true, laidKinds := [.data, .pinned], laidTests := true, laidLooks := .later }
def ProgScansUptoCardSaid : Prop := Claim7.holds Tryd.pinned (.plain (OpenSpec.upto progScansSpec)) progScansUptoCard

/-- THE SECOND FORM's CARD OF 'malthouselaw11.ProgStays'. -/
def progStaysUptoCard : Claim7 := { stood := { row := progStaysUptoRow, standIns := [], harness := (true, "079ea68e285a7da177931aa39eb9b19433f6f591bbd0ae183c8f0dc826d171dd"), looks := true }, kinds := [], alts := [], laidByText := true, laidKinds := [.data, .pinned], laidTests := true, laidLooks := .later }
def ProgStaysUptoCardSaid : Prop := Claim7.holds Tryd.pinned (.plain (OpenSpec.upto progStaysSpec)) progStaysUptoCard

/-- THE SECOND FORM's CARD OF 'malthouselaw11.ProgDelays'. -/
def progDelaysUptoCard : Claim7 := { stood := { row := progDelaysUptoRow, standIns := [], harness := (true, "079ea68e285a7da177931aa39eb9b19433f6f591bbd0ae183c8f0dc826d171dd"), looks := true }, kinds := [], alts := [], laidByText := true, laidKinds := [.data, .pinned], laidTests := true, laidLooks := .later }
def ProgDelaysUptoCardSaid : Prop := Claim7.holds Tryd.pinned (.plain (OpenSpec.upto progDelaysSpec)) progDelaysUptoCard

/-- THE SECOND FORM's CARD OF 'malthouselaw11.ProgWants'. -/
def progWantsUptoCard : Claim7 := { stood := { row := progWantsUptoRow, standIns := [], harness := (true, "079ea68e285a7da177931aa39eb9b19433f6f591bbd0ae183c8f0dc826d171dd"), looks := true }, kinds := [], alts := [], laidByText := true, laidKinds := [.data, .pinned], laidTests := true, laidLooks := .later }
def ProgWantsUptoCardSaid : Prop := Claim7.holds Tryd.pinned (.plain (OpenSpec.upto progWantsSpec)) progWantsUptoCard

/-- THE SECOND FORM's CARD OF 'malthouselaw11.ProgChecks'. -/
def progChecksUptoCard : Claim7 := { stood := { row := progChecksUptoRow, standIns := [], harness := (true, "079ea68e285a7da177931aa39eb9b19433f6f591bbd0ae183c8f0dc826d171dd"), looks := true }, kinds := [], alts := [], laidByText := true, laidKinds := [.data, .pinned], laidTests := true, laidLooks := .later }
def ProgChecksUptoCardSaid : Prop := Claim7.holds Tryd.pinned (.plain (OpenSpec.upto progChecksSpec)) progChecksUptoCard

/-- THE SECOND FORM's CARD OF 'malthouselaw11.ProgEnds'. -/
def progEndsUptoCard : Claim7 := { stood := { row := progEndsUptoRow, standIns := [], harness := (true, "079ea68e285a7da177931aa39eb9b19433f6f591bbd0ae183c8f0dc826d171dd"), looks := true }, kinds := [], alts := [], laidByText := true, laidKinds := [.data, .pinned], laidTests := true, laidLooks := .later }
def ProgEndsUptoCardSaid : Prop := Claim7.holds Tryd.pinned (.plain (OpenSpec.upto progEndsSpec)) progEndsUptoCard

/-- THE SECOND FORM's CARD OF 'malthouselaw12.PhaseKeeps'. -/
def phaseKeepsUptoCard : Claim7 := { stood := { row := phaseKeepsUptoRow, standIns := [], harness := (true, "079ea68e285a7da177931aa39eb9b19433f6f591bbd0ae183c8f0dc826d171dd"), looks := true }, kinds := [], alts := [], laidByText := true, laidKinds := [.data, .pinned], laidTests := true, laidLooks := .later }
def PhaseKeepsUptoCardSaid : Prop := Claim7.holds Tryd.pinned (.plain (OpenSpec.upto phaseKeepsSpec)) phaseKeepsUptoCard

/-- THE SECOND FORM's CARD OF 'malthouselaw12.PhaseAborts'. -/
def phaseAbortsUptoCard : Claim7 := { stood := { row := phaseAbortsUptoRow, standIns := [], harness := (true, "079ea68e285a7da177931aa39eb9b19433f6f591bbd0ae183c8f0dc826d171dd"), looks := true }, kinds := [], alts := [], laidByText := true, laidKinds := [.data, .pinned], laidTests := true, laidLooks := .later }
def PhaseAbortsUptoCardSaid : Prop := Claim7.holds Tryd.pinned (.plain (OpenSpec.upto phaseAbortsSpec)) phaseAbortsUptoCard

/-- THE SECOND FORM's CARD OF 'malthouselaw12.PhaseStarts'. -/
def phaseStartsUptoCard : Claim7 := { stood := { row := phaseStartsUptoRow, standIns := [], harness := (true, "079ea68e285a7da177931aa39eb9b19433f6f591bbd0ae183c8f0dc826d171dd"), looks := true }, kinds := [], alts := [], laidByText := true, laidKinds := [.data, .pinned], laidTests := true, laidLooks := .later }
def PhaseStartsUptoCardSaid : Prop := Claim7.holds Tryd.pinned (.plain (OpenSpec.upto phaseStartsSpec)) phaseStartsUptoCard

/-- THE SECOND FORM's CARD OF 'malthouselaw12.PhaseArgs'. -/
def phaseArgsUptoCard : Claim7 := { stood := { row := phaseArgsUptoRow, standIns := [], harness := (true, "079ea68e285a7da177931aa39eb9b19433f6f591bbd0ae183c8f0dc826d171dd"), looks := true }, kinds := [], alts := [], laidByText := true, laidKinds := [.data, .pinned], laidTests := true, laidLooks := .later }
def PhaseArgsUptoCardSaid : Prop := Claim7.holds Tryd.pinned (.plain (OpenSpec.upto phaseArgsSpec)) phaseArgsUptoCard
end Rows
end Go.Proofs.YtiaccdaeomaogaaDoor
