/-
  DERIVED. GIVEN WITH THE SEED: THE CARDS: each row of YtgcboligphndhaaGreatDoorRows.lean that lists a variable, with what it lists TIED to the program's text (the seventh form; the later family's looks); each row that meets fmt, with fmt's text TOLD by the authors' own Lean function (tested against real Go, not proved from fmt's source: count such statements apart). THE CARD IS WHAT COUNTS. Prove the row's statement (the work); the ties are given (YtgcboligphndhaaGreatDoorTie.lean); close each card by the builder's one call (the guide's Derived/Test/ToyasCard.lean, 'card_holds'). Laid BY PROGRAM, IN A SANDBOX (cutbox-door.mjs). By AI agents, Wed Nov 11 2026. No macro, syntax, notation, axiom, sorry.
-/
import Derived.Test.YtgcboligphndhaaGreatDoorRows
import GoSem.ClaimSeven
namespace Go.Proofs.YtgcboligphndhaaGreatDoor
namespace Rows

/-- THE TIED CARD OF 'priceofficelaw11.CollectionMarks'. -/
def collectionMarksCard : Claim7 := { stood := { row := collectionMarksRow, standIns := [], harness := (true, "40fb3bd35b79f194dc6e91eb15eecf1db62dc7e1bded180275d4dc3755fccfaf"), looks := true }, kinds := [], alts := [], laidByText := true, laidKinds := [.data, .data, .data, .data, .sentinel, .sentinel, .pinned], laidTests := true, laidLooks := .later }
def CollectionMarksCardSaid : Prop := Claim7.holds Tryz.pinned (.plain (OpenSpec.ofChange collectionMarksSpec)) collectionMarksCard

/-- THE TIED CARD OF 'priceofficelaw11.CollectionOrderless'. -/
def collectionOrderlessCard : Claim7 := { stood := { row := collectionOrderlessRow, standIns := [], harness := (true, "40fb3bd35b79f194dc6e91eb15eecf1db62dc7e1bded180275d4dc3755fccfaf"), looks := true }, kinds := [], alts := [], laidByText := true, laidKinds := [.data, .data, .data, .data, .sentinel, .sentinel, .pinned], laidTests := true, laidLooks := .later }
def CollectionOrderlessCardSaid : Prop := Claim7.holds Tryz.pinned (.plain (OpenSpec.ofChange collectionOrderlessSpec)) collectionOrderlessCard

/-- THE TIED CARD OF 'priceofficelaw15.VintageValid'. -/
def vintageValidCard : Claim7 := { stood := { row := vintageValidRow, standIns := [], harness := (true, "40fb3bd35b79f194dc6e91eb15eecf1db62dc7e1bded180275d4dc3755fccfaf"), looks := true }, kinds := [], alts := [], laidByText := true, laidKinds := [.data, .data, .data, .data, .sentinel, .sentinel, .pinned], laidTests := true, laidLooks := .later }
def VintageValidCardSaid : Prop := Claim7.holds Tryz.pinned (.plain (OpenSpec.ofChange vintageValidSpec)) vintageValidCard

/-- THE TIED CARD OF 'priceofficelaw15.VintageEncodes'. -/
def vintageEncodesCard : Claim7 := { stood := { row := vintageEncodesRow, standIns := [], harness := (true, "40fb3bd35b79f194dc6e91eb15eecf1db62dc7e1bded180275d4dc3755fccfaf"), looks := true }, kinds := [], alts := [], laidByText := true, laidKinds := [.data, .data, .data, .data, .sentinel, .sentinel, .pinned], laidTests := true, laidLooks := .later }
def VintageEncodesCardSaid : Prop := Claim7.holds Tryz.pinned (.plain (OpenSpec.ofChange vintageEncodesSpec)) vintageEncodesCard

/-- THE TIED CARD OF 'priceofficelaw15.VintageTells'. -/
def vintageTellsCard : Claim7 := { stood := { row := vintageTellsRow, standIns := [], harness := (true, "40fb3bd35b79f194dc6e91eb15eecf1db62dc7e1bded180275d4dc3755fccfaf"), looks := true }, kinds := [], alts := [], laidByText := true, laidKinds := [.data, .data, .data, .data, .sentinel, .sentinel, .pinned], laidTests := true, laidLooks := .later }
def VintageTellsCardSaid : Prop := Claim7.holds Tryz.pinned (.plain (OpenSpec.ofChange vintageTellsSpec)) vintageTellsCard

/-- THE TIED CARD OF 'priceofficelaw15.VintageNormal'. -/
def vintageNormalCard : Claim7 := { stood := { row := vintageNormalRow, standIns := [], harness := (true, "40fb3bd35b79f194dc6e91eb15eecf1db62dc7e1bded180275d4dc3755fccfaf"), looks := true }, kinds := [], alts := [], laidByText := true, laidKinds := [.data, .data, .data, .data, .sentinel, .sentinel, .pinned], laidTests := true, laidLooks := .later }
def VintageNormalCardSaid : Prop := Claim7.holds Tryz.pinned (.plain (OpenSpec.ofChange vintageNormalSpec)) vintageNormalCard

/-- THE TIED CARD OF 'priceofficelaw15.VintageNewest'. -/
def vintageNewestCard : Claim7 := { stood := { row := vintageNewestRow, standIns := [], harness := (true, "40fb3bd35b79f194dc6e91eb15eecf1db62dc7e1bded180275d4dc3755fccfaf"), looks := true }, kinds := [], alts := [], laidByText := true, laidKinds := [.data, .data, .data, .data, .sentinel, .sentinel, .pinned], laidTests := true, laidLooks := .later }
def VintageNewestCardSaid : Prop := Claim7.holds Tryz.pinned (.plain (OpenSpec.ofChange vintageNewestSpec)) vintageNewestCard

/-- THE TIED CARD OF 'priceofficelaw15.VintageViews'. -/
def vintageViewsCard : Claim7 := { stood := { row := vintageViewsRow, standIns := [], harness := (true, "40fb3bd35b79f194dc6e91eb15eecf1db62dc7e1bded180275d4dc3755fccfaf"), looks := true }, kinds := [], alts := [], laidByText := true, laidKinds := [.data, .data, .data, .data, .sentinel, .sentinel, .pinned], laidTests := true, laidLooks := .later }
def VintageViewsCardSaid : Prop := Claim7.holds Tryz.pinned (.plain (OpenSpec.ofChange vintageViewsSpec)) vintageViewsCard

/-- THE TIED CARD OF 'priceofficelaw15.VintageFuture'. -/
def vintageFutureCard : Claim7 := { stood := { row := vintageFutureRow, standIns := [], harness := (true, "40fb3bd35b79f194dc6e91eb15eecf1db62dc7e1bded180275d4dc3755fccfaf"), looks := true }, kinds := [], alts := [], laidByText := true, laidKinds := [.data, .data, .data, .data, .sentinel, .sentinel, .pinned], laidTests := true, laidLooks := .later }
def VintageFutureCardSaid : Prop := Claim7.holds Tryz.pinned (.plain (OpenSpec.ofChange vintageFutureSpec)) vintageFutureCard

/-- THE TIED CARD OF 'priceofficelaw15.VintageChanges'. -/
def vintageChangesCard : Claim7 := { stood := { row := vintageChangesRow, standIns := [], harness := (true, "40fb3bd35b79f194dc6e91eb15eecf1db62dc7e1bded180275d4dc3755fccfaf"), looks := true }, kinds := [], alts := [], laidByText := true, laidKinds := [.data, .data, .data, .data, .sentinel, .sentinel, .pinned], laidTests := true, laidLooks := .later }
def VintageChangesCardSaid : Prop := Claim7.holds Tryz.pinned (.plain (OpenSpec.ofChange vintageChangesSpec)) vintageChangesCard

/-- THE TIED CARD OF 'priceofficelaw15.VintageOrderless'. -/
def vintageOrderlessCard : Claim7 := { stood := { row := vintageOrderlessRow, standIns := [], harness := (true, "40fb3bd35b79f194dc6e91eb15eecf1db62dc7e1bded180275d4dc3755fccfaf"), looks := true }, kinds := [], alts := [], laidByText := true, laidKinds := [.data, .data, .data, .data, .sentinel, .sentinel, .pinned], laidTests := true, laidLooks := .later }
def VintageOrderlessCardSaid : Prop := Claim7.holds Tryz.pinned (.plain (OpenSpec.ofChange vintageOrderlessSpec)) vintageOrderlessCard

/-- THE TIED CARD OF 'priceofficelaw15.VintageParts'. -/
def vintagePartsCard : Claim7 := { stood := { row := vintagePartsRow, standIns := [], harness := (true, "40fb3bd35b79f194dc6e91eb15eecf1db62dc7e1bded180275d4dc3755fccfaf"), looks := true }, kinds := [], alts := [], laidByText := true, laidKinds := [.data, .data, .data, .data, .sentinel, .sentinel, .pinned], laidTests := true, laidLooks := .later }
def VintagePartsCardSaid : Prop := Claim7.holds Tryz.pinned (.plain (OpenSpec.ofChange vintagePartsSpec)) vintagePartsCard

/-- THE SECOND FORM's CARD OF 'priceofficelaw11.CollectionMarks'. -/
def collectionMarksUptoCard : Claim7 := { stood := { row := collectionMarksUptoRow, standIns := [], harness := (true, "40fb3bd35b79f194dc6e91eb15eecf1db62dc7e1bded180275d4dc3755fccfaf"), looks := true }, kinds := [], alts := [], laidByText := true, laidKinds := [.data, .data, .data, .data, .sentinel, .sentinel, .pinned], laidTests := true, laidLooks := .later }
def CollectionMarksUptoCardSaid : Prop := Claim7.holds Tryz.pinned (.plain (OpenSpec.upto collectionMarksSpec)) collectionMarksUptoCard

/-- THE SECOND FORM's CARD OF 'priceofficelaw11.CollectionOrderless'. -/
def collectionOrderlessUptoCard : Claim7 := { stood := { row := collectionOrderlessUptoRow, standIns := [], harness := (true, "40fb3bd35b79f194dc6e91eb15eecf1db62dc7e1bded180275d4dc3755fccfaf"), looks := true }, kinds := [], alts := [], laidByText := true, laidKinds := [.data, .data, .data, .data, .sentinel, .sentinel, .pinned], laidTests := true, laidLooks := .later }
def CollectionOrderlessUptoCardSaid : Prop := Claim7.holds Tryz.pinned (.plain (OpenSpec.upto collectionOrderlessSpec)) collectionOrderlessUptoCard

/-- THE SECOND FORM's CARD OF 'priceofficelaw15.VintageValid'. -/
def vintageValidUptoCard : Claim7 := { stood := { row := vintageValidUptoRow, standIns := [], harness := (true, "40fb3bd35b79f194dc6e91eb15eecf1db62dc7e1bded180275d4dc3755fccfaf"), looks := true }, kinds := [], alts := [], laidByText := true, laidKinds := [.data, .data, .data, .data, .sentinel, .sentinel, .pinned], laidTests := true, laidLooks := .later }
def VintageValidUptoCardSaid : Prop := Claim7.holds Tryz.pinned (.plain (OpenSpec.upto vintageValidSpec)) vintageValidUptoCard

/-- THE SECOND FORM's CARD OF 'priceofficelaw15.VintageEncodes'. -/
def vintageEncodesUptoCard : Claim7 := { stood := { row := vintageEncodesUptoRow, standIns := [], harness := (true, "40fb3bd35b79f194dc6e91eb15eecf1db62dc7e1bded180275d4dc3755fccfaf"), looks := true }, kinds := [], alts := [], laidByText := true, laidKinds := [.data, .data, .data, .data, .sentinel, .sentinel, .pinned], laidTests := true, laidLooks := .later }
def VintageEncodesUptoCardSaid : Prop := Claim7.holds Tryz.pinned (.plain (OpenSpec.upto vintageEncodesSpec)) vintageEncodesUptoCard

/-- THE SECOND FORM's CARD OF 'priceofficelaw15.VintageTells'. -/
def vintageTellsUptoCard : Claim7 := { stood := { row := vintageTellsUptoRow, standIns := [], harness := (true, "40fb3bd35b79f194dc6e91eb15eecf1db62dc7e1bded180275d4dc3755fccfaf"), looks := true }, kinds := [], alts := [], laidByText := true, laidKinds := [.data, .data, .data, .data, .sentinel, .sentinel, .pinned], laidTests := true, laidLooks := .later }
def VintageTellsUptoCardSaid : Prop := Claim7.holds Tryz.pinned (.plain (OpenSpec.upto vintageTellsSpec)) vintageTellsUptoCard

/-- THE SECOND FORM's CARD OF 'priceofficelaw15.VintageNormal'. -/
def vintageNormalUptoCard : Claim7 := { stood := { row := vintageNormalUptoRow, standIns := [], harness := (true, "40fb3bd35b79f194dc6e91eb15eecf1db62dc7e1bded180275d4dc3755fccfaf"), looks := true }, kinds := [], alts := [], laidByText := true, laidKinds := [.data, .data, .data, .data, .sentinel, .sentinel, .pinned], laidTests := true, laidLooks := .later }
def VintageNormalUptoCardSaid : Prop := Claim7.holds Tryz.pinned (.plain (OpenSpec.upto vintageNormalSpec)) vintageNormalUptoCard

/-- THE SECOND FORM's CARD OF 'priceofficelaw15.VintageNewest'. -/
def vintageNewestUptoCard : Claim7 := { stood := { row := vintageNewestUptoRow, standIns := [], harness := (true, "40fb3bd35b79f194dc6e91eb15eecf1db62dc7e1bded180275d4dc3755fccfaf"), looks := true }, kinds := [], alts := [], laidByText := true, laidKinds := [.data, .data, .data, .data, .sentinel, .sentinel, .pinned], laidTests := true, laidLooks := .later }
def VintageNewestUptoCardSaid : Prop := Claim7.holds Tryz.pinned (.plain (OpenSpec.upto vintageNewestSpec)) vintageNewestUptoCard

/-- THE SECOND FORM's CARD OF 'priceofficelaw15.VintageViews'. -/
def vintageViewsUptoCard : Claim7 := { stood := { row := vintageViewsUptoRow, standIns := [], harness := (true, "40fb3bd35b79f194dc6e91eb15eecf1db62dc7e1bded180275d4dc3755fccfaf"), looks := true }, kinds := [], alts := [], laidByText := true, laidKinds := [.data, .data, .data, .data, .sentinel, .sentinel, .pinned], laidTests := true, laidLooks := .later }
def VintageViewsUptoCardSaid : Prop := Claim7.holds Tryz.pinned (.plain (OpenSpec.upto vintageViewsSpec)) vintageViewsUptoCard

/-- THE SECOND FORM's CARD OF 'priceofficelaw15.VintageFuture'. -/
def vintageFutureUptoCard : Claim7 := { stood := { row := vintageFutureUptoRow, standIns := [], harness := (true, "40fb3bd35b79f194dc6e91eb15eecf1db62dc7e1bded180275d4dc3755fccfaf"), looks := true }, kinds := [], alts := [], laidByText := true, laidKinds := [.data, .data, .data, .data, .sentinel, .sentinel, .pinned], laidTests := true, laidLooks := .later }
def VintageFutureUptoCardSaid : Prop := Claim7.holds Tryz.pinned (.plain (OpenSpec.upto vintageFutureSpec)) vintageFutureUptoCard

/-- THE SECOND FORM's CARD OF 'priceofficelaw15.VintageChanges'. -/
def vintageChangesUptoCard : Claim7 := { stood := { row := vintageChangesUptoRow, standIns := [], harness := (true, "40fb3bd35b79f194dc6e91eb15eecf1db62dc7e1bded180275d4dc3755fccfaf"), looks := true }, kinds := [], alts := [], laidByText := true, laidKinds := [.data, .data, .data, .data, .sentinel, .sentinel, .pinned], laidTests := true, laidLooks := .later }
def VintageChangesUptoCardSaid : Prop := Claim7.holds Tryz.pinned (.plain (OpenSpec.upto vintageChangesSpec)) vintageChangesUptoCard

/-- THE SECOND FORM's CARD OF 'priceofficelaw15.VintageOrderless'. -/
def vintageOrderlessUptoCard : Claim7 := { stood := { row := vintageOrderlessUptoRow, standIns := [], harness := (true, "40fb3bd35b79f194dc6e91eb15eecf1db62dc7e1bded180275d4dc3755fccfaf"), looks := true }, kinds := [], alts := [], laidByText := true, laidKinds := [.data, .data, .data, .data, .sentinel, .sentinel, .pinned], laidTests := true, laidLooks := .later }
def VintageOrderlessUptoCardSaid : Prop := Claim7.holds Tryz.pinned (.plain (OpenSpec.upto vintageOrderlessSpec)) vintageOrderlessUptoCard

/-- THE SECOND FORM's CARD OF 'priceofficelaw15.VintageParts'. -/
def vintagePartsUptoCard : Claim7 := { stood := { row := vintagePartsUptoRow, standIns := [], harness := (true, "40fb3bd35b79f194dc6e91eb15eecf1db62dc7e1bded180275d4dc3755fccfaf"), looks := true }, kinds := [], alts := [], laidByText := true, laidKinds := [.data, .data, .data, .data, .sentinel, .sentinel, .pinned], laidTests := true, laidLooks := .later }
def VintagePartsUptoCardSaid : Prop := Claim7.holds Tryz.pinned (.plain (OpenSpec.upto vintagePartsSpec)) vintagePartsUptoCard
end Rows
end Go.Proofs.YtgcboligphndhaaGreatDoor
