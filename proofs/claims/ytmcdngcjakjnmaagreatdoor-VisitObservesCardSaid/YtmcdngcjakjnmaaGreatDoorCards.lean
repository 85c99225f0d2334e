/-
  DERIVED. GIVEN WITH THE SEED: THE CARDS: each row of YtmcdngcjakjnmaaGreatDoorRows.lean that lists a variable, with what it lists TIED to the program's text (the seventh form; the later family's looks); each row that meets fmt, with fmt's text TOLD by the authors' own Lean function (tested against real Go, not proved from fmt's source: count such statements apart). THE CARD IS WHAT COUNTS. Prove the row's statement (the work); the ties are given (YtmcdngcjakjnmaaGreatDoorTie.lean); close each card by the builder's one call (the guide's Derived/Test/ToyasCard.lean, 'card_holds'). Laid BY PROGRAM, IN A SANDBOX (cutbox-door.mjs). By AI agents, Wed Nov 11 2026. No macro, syntax, notation, axiom, sorry.
-/
import Derived.Test.YtmcdngcjakjnmaaGreatDoorRows
import GoSem.ClaimSeven
namespace Go.Proofs.YtmcdngcjakjnmaaGreatDoor
namespace Rows

/-- THE TIED CARD OF 'priceofficelaw12.VisitObserves'. -/
def visitObservesCard : Claim7 := { stood := { row := visitObservesRow, standIns := [], harness := (true, "45df5a8c9ecb56705658ebb30df4076f5d25be7071adf32bdc6d321a36dc9da9"), looks := true }, kinds := [], alts := [], laidByText := true, laidKinds := [.data, .data, .data, .data, .sentinel, .sentinel, .pinned], laidTests := true, laidLooks := .later }
def VisitObservesCardSaid : Prop := Claim7.holds Tryz.pinned (.plain (OpenSpec.ofChange visitObservesSpec)) visitObservesCard

/-- THE TIED CARD OF 'priceofficelaw12.VisitPrices'. -/
def visitPricesCard : Claim7 := { stood := { row := visitPricesRow, standIns := [], harness := (true, "45df5a8c9ecb56705658ebb30df4076f5d25be7071adf32bdc6d321a36dc9da9"), looks := true }, kinds := [], alts := [], laidByText := true, laidKinds := [.data, .data, .data, .data, .sentinel, .sentinel, .pinned], laidTests := true, laidLooks := .later }
def VisitPricesCardSaid : Prop := Claim7.holds Tryz.pinned (.plain (OpenSpec.ofChange visitPricesSpec)) visitPricesCard

/-- THE TIED CARD OF 'priceofficelaw12.VisitDisputes'. -/
def visitDisputesCard : Claim7 := { stood := { row := visitDisputesRow, standIns := [], harness := (true, "45df5a8c9ecb56705658ebb30df4076f5d25be7071adf32bdc6d321a36dc9da9"), looks := true }, kinds := [], alts := [], laidByText := true, laidKinds := [.data, .data, .data, .data, .sentinel, .sentinel, .pinned], laidTests := true, laidLooks := .later }
def VisitDisputesCardSaid : Prop := Claim7.holds Tryz.pinned (.plain (OpenSpec.ofChange visitDisputesSpec)) visitDisputesCard

/-- THE TIED CARD OF 'priceofficelaw12.VisitSeries'. -/
def visitSeriesCard : Claim7 := { stood := { row := visitSeriesRow, standIns := [], harness := (true, "45df5a8c9ecb56705658ebb30df4076f5d25be7071adf32bdc6d321a36dc9da9"), looks := true }, kinds := [], alts := [], laidByText := true, laidKinds := [.data, .data, .data, .data, .sentinel, .sentinel, .pinned], laidTests := true, laidLooks := .later }
def VisitSeriesCardSaid : Prop := Claim7.holds Tryz.pinned (.plain (OpenSpec.ofChange visitSeriesSpec)) visitSeriesCard

/-- THE TIED CARD OF 'priceofficelaw12.VisitCounts'. -/
def visitCountsCard : Claim7 := { stood := { row := visitCountsRow, standIns := [], harness := (true, "45df5a8c9ecb56705658ebb30df4076f5d25be7071adf32bdc6d321a36dc9da9"), looks := true }, kinds := [], alts := [], laidByText := true, laidKinds := [.data, .data, .data, .data, .sentinel, .sentinel, .pinned], laidTests := true, laidLooks := .later }
def VisitCountsCardSaid : Prop := Claim7.holds Tryz.pinned (.plain (OpenSpec.ofChange visitCountsSpec)) visitCountsCard

/-- THE TIED CARD OF 'priceofficelaw12.VisitOrderless'. -/
def visitOrderlessCard : Claim7 := { stood := { row := visitOrderlessRow, standIns := [], harness := (true, "45df5a8c9ecb56705658ebb30df4076f5d25be7071adf32bdc6d321a36dc9da9"), looks := true }, kinds := [], alts := [], laidByText := true, laidKinds := [.data, .data, .data, .data, .sentinel, .sentinel, .pinned], laidTests := true, laidLooks := .later }
def VisitOrderlessCardSaid : Prop := Claim7.holds Tryz.pinned (.plain (OpenSpec.ofChange visitOrderlessSpec)) visitOrderlessCard

/-- THE TIED CARD OF 'priceofficelaw12.VisitReplaces'. -/
def visitReplacesCard : Claim7 := { stood := { row := visitReplacesRow, standIns := [], harness := (true, "45df5a8c9ecb56705658ebb30df4076f5d25be7071adf32bdc6d321a36dc9da9"), looks := true }, kinds := [], alts := [], laidByText := true, laidKinds := [.data, .data, .data, .data, .sentinel, .sentinel, .pinned], laidTests := true, laidLooks := .later }
def VisitReplacesCardSaid : Prop := Claim7.holds Tryz.pinned (.plain (OpenSpec.ofChange visitReplacesSpec)) visitReplacesCard

/-- THE TIED CARD OF 'priceofficelaw12.VisitStates'. -/
def visitStatesCard : Claim7 := { stood := { row := visitStatesRow, standIns := [], harness := (true, "45df5a8c9ecb56705658ebb30df4076f5d25be7071adf32bdc6d321a36dc9da9"), looks := true }, kinds := [], alts := [], laidByText := true, laidKinds := [.data, .data, .data, .data, .sentinel, .sentinel, .pinned], laidTests := true, laidLooks := .later }
def VisitStatesCardSaid : Prop := Claim7.holds Tryz.pinned (.plain (OpenSpec.ofChange visitStatesSpec)) visitStatesCard

/-- THE TIED CARD OF 'priceofficelaw12.VisitEnds'. -/
def visitEndsCard : Claim7 := { stood := { row := visitEndsRow, standIns := [], harness := (true, "45df5a8c9ecb56705658ebb30df4076f5d25be7071adf32bdc6d321a36dc9da9"), looks := true }, kinds := [], alts := [], laidByText := true, laidKinds := [.data, .data, .data, .data, .sentinel, .sentinel, .pinned], laidTests := true, laidLooks := .later }
def VisitEndsCardSaid : Prop := Claim7.holds Tryz.pinned (.plain (OpenSpec.ofChange visitEndsSpec)) visitEndsCard

/-- THE TIED CARD OF 'priceofficelaw12.VisitAfter'. -/
def visitAfterCard : Claim7 := { stood := { row := visitAfterRow, standIns := [], harness := (true, "45df5a8c9ecb56705658ebb30df4076f5d25be7071adf32bdc6d321a36dc9da9"), looks := true }, kinds := [], alts := [], laidByText := true, laidKinds := [.data, .data, .data, .data, .sentinel, .sentinel, .pinned], laidTests := true, laidLooks := .later }
def VisitAfterCardSaid : Prop := Claim7.holds Tryz.pinned (.plain (OpenSpec.ofChange visitAfterSpec)) visitAfterCard

/-- THE SECOND FORM's CARD OF 'priceofficelaw12.VisitObserves'. -/
def visitObservesUptoCard : Claim7 := { stood := { row := visitObservesUptoRow, standIns := [], harness := (true, "45df5a8c9ecb56705658ebb30df4076f5d25be7071adf32bdc6d321a36dc9da9"), looks := true }, kinds := [], alts := [], laidByText := true, laidKinds := [.data, .data, .data, .data, .sentinel, .sentinel, .pinned], laidTests := true, laidLooks := .later }
def VisitObservesUptoCardSaid : Prop := Claim7.holds Tryz.pinned (.plain (OpenSpec.upto visitObservesSpec)) visitObservesUptoCard

/-- THE SECOND FORM's CARD OF 'priceofficelaw12.VisitPrices'. -/
def visitPricesUptoCard : Claim7 := { stood := { row := visitPricesUptoRow, standIns := [], harness := (true, "45df5a8c9ecb56705658ebb30df4076f5d25be7071adf32bdc6d321a36dc9da9"), looks := true }, kinds := [], alts := [], laidByText := true, laidKinds := [.data, .data, .data, .data, .sentinel, .sentinel, .pinned], laidTests := true, laidLooks := .later }
def VisitPricesUptoCardSaid : Prop := Claim7.holds Tryz.pinned (.plain (OpenSpec.upto visitPricesSpec)) visitPricesUptoCard

/-- THE SECOND FORM's CARD OF 'priceofficelaw12.VisitDisputes'. -/
def visitDisputesUptoCard : Claim7 := { stood := { row := visitDisputesUptoRow, standIns := [], harness := (true, "45df5a8c9ecb56705658ebb30df4076f5d25be7071adf32bdc6d321a36dc9da9"), looks := true }, kinds := [], alts := [], laidByText := true, laidKinds := [.data, .data, .data, .data, .sentinel, .sentinel, .pinned], laidTests := true, laidLooks := .later }
def VisitDisputesUptoCardSaid : Prop := Claim7.holds Tryz.pinned (.plain (OpenSpec.upto visitDisputesSpec)) visitDisputesUptoCard

/-- THE SECOND FORM's CARD OF 'priceofficelaw12.VisitSeries'. -/
def visitSeriesUptoCard : Claim7 := { stood := { row := visitSeriesUptoRow, standIns := [], harness := (true, "45df5a8c9ecb56705658ebb30df4076f5d25be7071adf32bdc6d321a36dc9da9"), looks := true }, kinds := [], alts := [], laidByText := true, laidKinds := [.data, .data, .data, .data, .sentinel, .sentinel, .pinned], laidTests := true, laidLooks := .later }
def VisitSeriesUptoCardSaid : Prop := Claim7.holds Tryz.pinned (.plain (OpenSpec.upto visitSeriesSpec)) visitSeriesUptoCard

/-- THE SECOND FORM's CARD OF 'priceofficelaw12.VisitCounts'. -/
def visitCountsUptoCard : Claim7 := { stood := { row := visitCountsUptoRow, standIns := [], harness := (true, "45df5a8c9ecb56705658ebb30df4076f5d25be7071adf32bdc6d321a36dc9da9"), looks := true }, kinds := [], alts := [], laidByText := true, laidKinds := [.data, .data, .data, .data, .sentinel, .sentinel, .pinned], laidTests := true, laidLooks := .later }
def VisitCountsUptoCardSaid : Prop := Claim7.holds Tryz.pinned (.plain (OpenSpec.upto visitCountsSpec)) visitCountsUptoCard

/-- THE SECOND FORM's CARD OF 'priceofficelaw12.VisitOrderless'. -/
def visitOrderlessUptoCard : Claim7 := { stood := { row := visitOrderlessUptoRow, standIns := [], harness := (true, "45df5a8c9ecb56705658ebb30df4076f5d25be7071adf32bdc6d321a36dc9da9"), looks := true }, kinds := [], alts := [], laidByText := true, laidKinds := [.data, .data, .data, .data, .sentinel, .sentinel, .pinned], laidTests := true, laidLooks := .later }
def VisitOrderlessUptoCardSaid : Prop := Claim7.holds Tryz.pinned (.plain (OpenSpec.upto visitOrderlessSpec)) visitOrderlessUptoCard

/-- THE SECOND FORM's CARD OF 'priceofficelaw12.VisitReplaces'. -/
def visitReplacesUptoCard : Claim7 := { stood := { row := visitReplacesUptoRow, standIns := [], harness := (true, "45df5a8c9ecb56705658ebb30df4076f5d25be7071adf32bdc6d321a36dc9da9"), looks := true }, kinds := [], alts := [], laidByText := true, laidKinds := [.data, .data, .data, .data, .sentinel, .sentinel, .pinned], laidTests := true, laidLooks := .later }
def VisitReplacesUptoCardSaid : Prop := Claim7.holds Tryz.pinned (.plain (OpenSpec.upto visitReplacesSpec)) visitReplacesUptoCard

/-- THE SECOND FORM's CARD OF 'priceofficelaw12.VisitStates'. -/
def visitStatesUptoCard : Claim7 := { stood := { row := visitStatesUptoRow, standIns := [], harness := (true, "45df5a8c9ecb56705658ebb30df4076f5d25be7071adf32bdc6d321a36dc9da9"), looks := true }, kinds := [], alts := [], laidByText := true, laidKinds := [.data, .data, .data, .data, .sentinel, .sentinel, .pinned], laidTests := true, laidLooks := .later }
def VisitStatesUptoCardSaid : Prop := Claim7.holds Tryz.pinned (.plain (OpenSpec.upto visitStatesSpec)) visitStatesUptoCard

/-- THE SECOND FORM's CARD OF 'priceofficelaw12.VisitEnds'. -/
def visitEndsUptoCard : Claim7 := { stood := { row := visitEndsUptoRow, standIns := [], harness := (true, "45df5a8c9ecb56705658ebb30df4076f5d25be7071adf32bdc6d321a36dc9da9"), looks := true }, kinds := [], alts := [], laidByText := true, laidKinds := [.data, .data, .data, .data, .sentinel, .sentinel, .pinned], laidTests := true, laidLooks := .later }
def VisitEndsUptoCardSaid : Prop := Claim7.holds Tryz.pinned (.plain (OpenSpec.upto visitEndsSpec)) visitEndsUptoCard

/-- THE SECOND FORM's CARD OF 'priceofficelaw12.VisitAfter'. -/
def visitAfterUptoCard : Claim7 := { stood := { row := visitAfterUptoRow, standIns := [], harness := (true, "45df5a8c9ecb56705658ebb30df4076f5d25be7071adf32bdc6d321a36dc9da9"), looks := true }, kinds := [], alts := [], laidByText := true, laidKinds := [.data, .data, .data, .data, .sentinel, .sentinel, .pinned], laidTests := true, laidLooks := .later }
def VisitAfterUptoCardSaid : Prop := Claim7.holds Tryz.pinned (.plain (OpenSpec.upto visitAfterSpec)) visitAfterUptoCard
end Rows
end Go.Proofs.YtmcdngcjakjnmaaGreatDoor
