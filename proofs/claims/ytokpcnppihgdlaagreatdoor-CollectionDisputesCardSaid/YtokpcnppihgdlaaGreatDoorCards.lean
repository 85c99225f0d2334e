/-
  DERIVED. GIVEN WITH THE SEED: THE CARDS: each row of YtokpcnppihgdlaaGreatDoorRows.lean that lists a variable, with what it lists TIED to the program's text (the seventh form; the later family's looks); each row that meets fmt, with fmt's text TOLD by the authors' own Lean function (tested against real Go, not proved from fmt's source: count such statements apart). THE CARD IS WHAT COUNTS. Prove the row's statement (the work); the ties are given (YtokpcnppihgdlaaGreatDoorTie.lean); close each card by the builder's one call (the guide's Derived/Test/ToyasCard.lean, 'card_holds'). Laid BY PROGRAM, IN A SANDBOX (cutbox-door.mjs). By AI agents, Wed Nov 11 2026. No macro, syntax, notation, axiom, sorry.
-/
import Derived.Test.YtokpcnppihgdlaaGreatDoorRows
import GoSem.ClaimSeven
namespace Go.Proofs.YtokpcnppihgdlaaGreatDoor
namespace Rows

/-- THE TIED CARD OF 'priceofficelaw13.ScannerValid'. -/
def scannerValidCard : Claim7 := { stood := { row := scannerValidRow, standIns := [], harness := (true, "9fc102e4074b6cbfcb17ff81fe27951d79d0a08a23044dbb02ad96fa3f9cf2ef"), looks := true }, kinds := [], alts := [], laidByText := true, laidKinds := [.data, .data, .data, .data, .sentinel, .sentinel, .pinned], laidTests := true, laidLooks := .later }
def ScannerValidCardSaid : Prop := Claim7.holds Tryz.pinned (.plain (OpenSpec.ofChange scannerValidSpec)) scannerValidCard

/-- THE TIED CARD OF 'priceofficelaw13.ScannerMany'. -/
def scannerManyCard : Claim7 := { stood := { row := scannerManyRow, standIns := [], harness := (true, "9fc102e4074b6cbfcb17ff81fe27951d79d0a08a23044dbb02ad96fa3f9cf2ef"), looks := true }, kinds := [], alts := [], laidByText := true, laidKinds := [.data, .data, .data, .data, .sentinel, .sentinel, .pinned], laidTests := true, laidLooks := .later }
def ScannerManyCardSaid : Prop := Claim7.holds Tryz.pinned (.plain (OpenSpec.ofChange scannerManySpec)) scannerManyCard

/-- THE TIED CARD OF 'priceofficelaw13.ScannerAdds'. -/
def scannerAddsCard : Claim7 := { stood := { row := scannerAddsRow, standIns := [], harness := (true, "9fc102e4074b6cbfcb17ff81fe27951d79d0a08a23044dbb02ad96fa3f9cf2ef"), looks := true }, kinds := [], alts := [], laidByText := true, laidKinds := [.data, .data, .data, .data, .sentinel, .sentinel, .pinned], laidTests := true, laidLooks := .later }
def ScannerAddsCardSaid : Prop := Claim7.holds Tryz.pinned (.plain (OpenSpec.ofChange scannerAddsSpec)) scannerAddsCard

/-- THE TIED CARD OF 'priceofficelaw13.ScannerTurnover'. -/
def scannerTurnoverCard : Claim7 := { stood := { row := scannerTurnoverRow, standIns := [], harness := (true, "9fc102e4074b6cbfcb17ff81fe27951d79d0a08a23044dbb02ad96fa3f9cf2ef"), looks := true }, kinds := [], alts := [], laidByText := true, laidKinds := [.data, .data, .data, .data, .sentinel, .sentinel, .pinned], laidTests := true, laidLooks := .later }
def ScannerTurnoverCardSaid : Prop := Claim7.holds Tryz.pinned (.plain (OpenSpec.ofChange scannerTurnoverSpec)) scannerTurnoverCard

/-- THE TIED CARD OF 'priceofficelaw11.CollectionValid'. -/
def collectionValidCard : Claim7 := { stood := { row := collectionValidRow, standIns := [], harness := (true, "9fc102e4074b6cbfcb17ff81fe27951d79d0a08a23044dbb02ad96fa3f9cf2ef"), looks := true }, kinds := [], alts := [], laidByText := true, laidKinds := [.data, .data, .data, .data, .sentinel, .sentinel, .pinned], laidTests := true, laidLooks := .later }
def CollectionValidCardSaid : Prop := Claim7.holds Tryz.pinned (.plain (OpenSpec.ofChange collectionValidSpec)) collectionValidCard

/-- THE TIED CARD OF 'priceofficelaw11.CollectionMerges'. -/
def collectionMergesCard : Claim7 := { stood := { row := collectionMergesRow, standIns := [], harness := (true, "9fc102e4074b6cbfcb17ff81fe27951d79d0a08a23044dbb02ad96fa3f9cf2ef"), looks := true }, kinds := [], alts := [], laidByText := true, laidKinds := [.data, .data, .data, .data, .sentinel, .sentinel, .pinned], laidTests := true, laidLooks := .later }
def CollectionMergesCardSaid : Prop := Claim7.holds Tryz.pinned (.plain (OpenSpec.ofChange collectionMergesSpec)) collectionMergesCard

/-- THE TIED CARD OF 'priceofficelaw11.CollectionUnion'. -/
def collectionUnionCard : Claim7 := { stood := { row := collectionUnionRow, standIns := [], harness := (true, "9fc102e4074b6cbfcb17ff81fe27951d79d0a08a23044dbb02ad96fa3f9cf2ef"), looks := true }, kinds := [], alts := [], laidByText := true, laidKinds := [.data, .data, .data, .data, .sentinel, .sentinel, .pinned], laidTests := true, laidLooks := .later }
def CollectionUnionCardSaid : Prop := Claim7.holds Tryz.pinned (.plain (OpenSpec.ofChange collectionUnionSpec)) collectionUnionCard

/-- THE TIED CARD OF 'priceofficelaw11.CollectionResolves'. -/
def collectionResolvesCard : Claim7 := { stood := { row := collectionResolvesRow, standIns := [], harness := (true, "9fc102e4074b6cbfcb17ff81fe27951d79d0a08a23044dbb02ad96fa3f9cf2ef"), looks := true }, kinds := [], alts := [], laidByText := true, laidKinds := [.data, .data, .data, .data, .sentinel, .sentinel, .pinned], laidTests := true, laidLooks := .later }
def CollectionResolvesCardSaid : Prop := Claim7.holds Tryz.pinned (.plain (OpenSpec.ofChange collectionResolvesSpec)) collectionResolvesCard

/-- THE TIED CARD OF 'priceofficelaw11.CollectionDisputes'. -/
def collectionDisputesCard : Claim7 := { stood := { row := collectionDisputesRow, standIns := [], harness := (true, "9fc102e4074b6cbfcb17ff81fe27951d79d0a08a23044dbb02ad96fa3f9cf2ef"), looks := true }, kinds := [], alts := [], laidByText := true, laidKinds := [.data, .data, .data, .data, .sentinel, .sentinel, .pinned], laidTests := true, laidLooks := .later }
def CollectionDisputesCardSaid : Prop := Claim7.holds Tryz.pinned (.plain (OpenSpec.ofChange collectionDisputesSpec)) collectionDisputesCard

/-- THE TIED CARD OF 'priceofficelaw11.CollectionLatest'. -/
def collectionLatestCard : Claim7 := { stood := { row := collectionLatestRow, standIns := [], harness := (true, "9fc102e4074b6cbfcb17ff81fe27951d79d0a08a23044dbb02ad96fa3f9cf2ef"), looks := true }, kinds := [], alts := [], laidByText := true, laidKinds := [.data, .data, .data, .data, .sentinel, .sentinel, .pinned], laidTests := true, laidLooks := .later }
def CollectionLatestCardSaid : Prop := Claim7.holds Tryz.pinned (.plain (OpenSpec.ofChange collectionLatestSpec)) collectionLatestCard

/-- THE TIED CARD OF 'priceofficelaw11.CollectionCandidates'. -/
def collectionCandidatesCard : Claim7 := { stood := { row := collectionCandidatesRow, standIns := [], harness := (true, "9fc102e4074b6cbfcb17ff81fe27951d79d0a08a23044dbb02ad96fa3f9cf2ef"), looks := true }, kinds := [], alts := [], laidByText := true, laidKinds := [.data, .data, .data, .data, .sentinel, .sentinel, .pinned], laidTests := true, laidLooks := .later }
def CollectionCandidatesCardSaid : Prop := Claim7.holds Tryz.pinned (.plain (OpenSpec.ofChange collectionCandidatesSpec)) collectionCandidatesCard

/-- THE TIED CARD OF 'priceofficelaw11.CollectionGaps'. -/
def collectionGapsCard : Claim7 := { stood := { row := collectionGapsRow, standIns := [], harness := (true, "9fc102e4074b6cbfcb17ff81fe27951d79d0a08a23044dbb02ad96fa3f9cf2ef"), looks := true }, kinds := [], alts := [], laidByText := true, laidKinds := [.data, .data, .data, .data, .sentinel, .sentinel, .pinned], laidTests := true, laidLooks := .later }
def CollectionGapsCardSaid : Prop := Claim7.holds Tryz.pinned (.plain (OpenSpec.ofChange collectionGapsSpec)) collectionGapsCard

/-- THE SECOND FORM's CARD OF 'priceofficelaw13.ScannerValid'. -/
def scannerValidUptoCard : Claim7 := { stood := { row := scannerValidUptoRow, standIns := [], harness := (true, "9fc102e4074b6cbfcb17ff81fe27951d79d0a08a23044dbb02ad96fa3f9cf2ef"), looks := true }, kinds := [], alts := [], laidByText := true, laidKinds := [.data, .data, .data, .data, .sentinel, .sentinel, .pinned], laidTests := true, laidLooks := .later }
def ScannerValidUptoCardSaid : Prop := Claim7.holds Tryz.pinned (.plain (OpenSpec.upto scannerValidSpec)) scannerValidUptoCard

/-- THE SECOND FORM's CARD OF 'priceofficelaw13.ScannerMany'. -/
def scannerManyUptoCard : Claim7 := { stood := { row := scannerManyUptoRow, standIns := [], harness := (true, "9fc102e4074b6cbfcb17ff81fe27951d79d0a08a23044dbb02ad96fa3f9cf2ef"), looks := true }, kinds := [], alts := [], laidByText := true, laidKinds := [.data, .data, .data, .data, .sentinel, .sentinel, .pinned], laidTests := true, laidLooks := .later }
def ScannerManyUptoCardSaid : Prop := Claim7.holds Tryz.pinned (.plain (OpenSpec.upto scannerManySpec)) scannerManyUptoCard

/-- THE SECOND FORM's CARD OF 'priceofficelaw13.ScannerAdds'. -/
def scannerAddsUptoCard : Claim7 := { stood := { row := scannerAddsUptoRow, standIns := [], harness := (true, "9fc102e4074b6cbfcb17ff81fe27951d79d0a08a23044dbb02ad96fa3f9cf2ef"), looks := true }, kinds := [], alts := [], laidByText := true, laidKinds := [.data, .data, .data, .data, .sentinel, .sentinel, .pinned], laidTests := true, laidLooks := .later }
def ScannerAddsUptoCardSaid : Prop := Claim7.holds Tryz.pinned (.plain (OpenSpec.upto scannerAddsSpec)) scannerAddsUptoCard

/-- THE SECOND FORM's CARD OF 'priceofficelaw13.ScannerTurnover'. -/
def scannerTurnoverUptoCard : Claim7 := { stood := { row := scannerTurnoverUptoRow, standIns := [], harness := (true, "9fc102e4074b6cbfcb17ff81fe27951d79d0a08a23044dbb02ad96fa3f9cf2ef"), looks := true }, kinds := [], alts := [], laidByText := true, laidKinds := [.data, .data, .data, .data, .sentinel, .sentinel, .pinned], laidTests := true, laidLooks := .later }
def ScannerTurnoverUptoCardSaid : Prop := Claim7.holds Tryz.pinned (.plain (OpenSpec.upto scannerTurnoverSpec)) scannerTurnoverUptoCard

/-- THE SECOND FORM's CARD OF 'priceofficelaw11.CollectionValid'. -/
def collectionValidUptoCard : Claim7 := { stood := { row := collectionValidUptoRow, standIns := [], harness := (true, "9fc102e4074b6cbfcb17ff81fe27951d79d0a08a23044dbb02ad96fa3f9cf2ef"), looks := true }, kinds := [], alts := [], laidByText := true, laidKinds := [.data, .data, .data, .data, .sentinel, .sentinel, .pinned], laidTests := true, laidLooks := .later }
def CollectionValidUptoCardSaid : Prop := Claim7.holds Tryz.pinned (.plain (OpenSpec.upto collectionValidSpec)) collectionValidUptoCard

/-- THE SECOND FORM's CARD OF 'priceofficelaw11.CollectionMerges'. -/
def collectionMergesUptoCard : Claim7 := { stood := { row := collectionMergesUptoRow, standIns := [], harness := (true, "9fc102e4074b6cbfcb17ff81fe27951d79d0a08a23044dbb02ad96fa3f9cf2ef"), looks := true }, kinds := [], alts := [], laidByText := true, laidKinds := [.data, .data, .data, .data, .sentinel, .sentinel, .pinned], laidTests := true, laidLooks := .later }
def CollectionMergesUptoCardSaid : Prop := Claim7.holds Tryz.pinned (.plain (OpenSpec.upto collectionMergesSpec)) collectionMergesUptoCard

/-- THE SECOND FORM's CARD OF 'priceofficelaw11.CollectionUnion'. -/
def collectionUnionUptoCard : Claim7 := { stood := { row := collectionUnionUptoRow, standIns := [], harness := (true, "9fc102e4074b6cbfcb17ff81fe27951d79d0a08a23044dbb02ad96fa3f9cf2ef"), looks := true }, kinds := [], alts := [], laidByText := true, laidKinds := [.data, .data, .data, .data, .sentinel, .sentinel, .pinned], laidTests := true, laidLooks := .later }
def CollectionUnionUptoCardSaid : Prop := Claim7.holds Tryz.pinned (.plain (OpenSpec.upto collectionUnionSpec)) collectionUnionUptoCard

/-- THE SECOND FORM's CARD OF 'priceofficelaw11.CollectionResolves'. -/
def collectionResolvesUptoCard : Claim7 := { stood := { row := collectionResolvesUptoRow, standIns := [], harness := (true, "9fc102e4074b6cbfcb17ff81fe27951d79d0a08a23044dbb02ad96fa3f9cf2ef"), looks := true }, kinds := [], alts := [], laidByText := true, laidKinds := [.data, .data, .data, .data, .sentinel, .sentinel, .pinned], laidTests := true, laidLooks := .later }
def CollectionResolvesUptoCardSaid : Prop := Claim7.holds Tryz.pinned (.plain (OpenSpec.upto collectionResolvesSpec)) collectionResolvesUptoCard

/-- THE SECOND FORM's CARD OF 'priceofficelaw11.CollectionDisputes'. -/
def collectionDisputesUptoCard : Claim7 := { stood := { row := collectionDisputesUptoRow, standIns := [], harness := (true, "9fc102e4074b6cbfcb17ff81fe27951d79d0a08a23044dbb02ad96fa3f9cf2ef"), looks := true }, kinds := [], alts := [], laidByText := true, laidKinds := [.data, .data, .data, .data, .sentinel, .sentinel, .pinned], laidTests := true, laidLooks := .later }
def CollectionDisputesUptoCardSaid : Prop := Claim7.holds Tryz.pinned (.plain (OpenSpec.upto collectionDisputesSpec)) collectionDisputesUptoCard

/-- THE SECOND FORM's CARD OF 'priceofficelaw11.CollectionLatest'. -/
def collectionLatestUptoCard : Claim7 := { stood := { row := collectionLatestUptoRow, standIns := [], harness := (true, "9fc102e4074b6cbfcb17ff81fe27951d79d0a08a23044dbb02ad96fa3f9cf2ef"), looks := true }, kinds := [], alts := [], laidByText := true, laidKinds := [.data, .data, .data, .data, .sentinel, .sentinel, .pinned], laidTests := true, laidLooks := .later }
def CollectionLatestUptoCardSaid : Prop := Claim7.holds Tryz.pinned (.plain (OpenSpec.upto collectionLatestSpec)) collectionLatestUptoCard

/-- THE SECOND FORM's CARD OF 'priceofficelaw11.CollectionCandidates'. -/
def collectionCandidatesUptoCard : Claim7 := { stood := { row := collectionCandidatesUptoRow, standIns := [], harness := (true, "9fc102e4074b6cbfcb17ff81fe27951d79d0a08a23044dbb02ad96fa3f9cf2ef"), looks := true }, kinds := [], alts := [], laidByText := true, laidKinds := [.data, .data, .data, .data, .sentinel, .sentinel, .pinned], laidTests := true, laidLooks := .later }
def CollectionCandidatesUptoCardSaid : Prop := Claim7.holds Tryz.pinned (.plain (OpenSpec.upto collectionCandidatesSpec)) collectionCandidatesUptoCard

/-- THE SECOND FORM's CARD OF 'priceofficelaw11.CollectionGaps'. -/
def collectionGapsUptoCard : Claim7 := { stood := { row := collectionGapsUptoRow, standIns := [], harness := (true, "9fc102e4074b6cbfcb17ff81fe27951d79d0a08a23044dbb02ad96fa3f9cf2ef"), looks := true }, kinds := [], alts := [], laidByText := true, laidKinds := [.data, .data, .data, .data, .sentinel, .sentinel, .pinned], laidTests := true, laidLooks := .later }
def CollectionGapsUptoCardSaid : Prop := Claim7.holds Tryz.pinned (.plain (OpenSpec.upto collectionGapsSpec)) collectionGapsUptoCard
end Rows
end Go.Proofs.YtokpcnppihgdlaaGreatDoor
