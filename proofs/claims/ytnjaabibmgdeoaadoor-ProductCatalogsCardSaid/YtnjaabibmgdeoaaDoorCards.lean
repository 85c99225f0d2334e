/-
  DERIVED. GIVEN WITH THE SEED: THE CARDS: each row of YtnjaabibmgdeoaaDoorRows.lean that lists a variable, with what it lists TIED to the program's text (the seventh form; the later family's looks); each row that meets fmt, with fmt's text TOLD by the authors' own Lean function (tested against real Go, not proved from fmt's source: count such statements apart). THE CARD IS WHAT COUNTS. Prove the row's statement (the work); the ties are given (YtnjaabibmgdeoaaDoorTie.lean); close each card by the builder's one call (the guide's Derived/Test/ToyasCard.lean, 'card_holds'). Laid BY PROGRAM, IN A SANDBOX (cutbox-door.mjs). By AI agents, Wed Nov 11 2026. No macro, syntax, notation, axiom, sorry.
-/
import Derived.Test.YtnjaabibmgdeoaaDoorRows
import GoSem.ClaimSeven
namespace Go.Proofs.YtnjaabibmgdeoaaDoor
namespace Rows

/-- THE TIED CARD OF 'priceofficelaw09.ProductValid'. -/
def productValidCard : Claim7 := { stood := { row := productValidRow, standIns := [], harness := (true, "4208ae18efe3e3f5a8af8fbb311d91fbcd6a4360918d67f20c71156b1b26093e"), looks := true }, kinds := [], alts := [], laidByText := true, laidKinds := [.data, .data, .data, .data, .sentinel, .sentinel, .pinned], laidTests := true, laidLooks := .later }
def ProductValidCardSaid : Prop := Claim7.holds Tryd.pinned (.plain (OpenSpec.ofChange productValidSpec)) productValidCard

/-- THE TIED CARD OF 'priceofficelaw09.ProductMany'. -/
def productManyCard : Claim7 := { stood := { row := productManyRow, standIns := [], harness := (true, "4208ae18efe3e3f5a8af8fbb311d91fbcd6a4360918d67f20c71156b1b26093e"), looks := true }, kinds := [], alts := [], laidByText := true, laidKinds := [.data, .data, .data, .data, .sentinel, .sentinel, .pinned], laidTests := true, laidLooks := .later }
def ProductManyCardSaid : Prop := Claim7.holds Tryd.pinned (.plain (OpenSpec.ofChange productManySpec)) productManyCard

/-- THE TIED CARD OF 'priceofficelaw09.ProductCatalogs'. -/
def productCatalogsCard : Claim7 := { stood := { row := productCatalogsRow, standIns := [], harness := (true, "4208ae18efe3e3f5a8af8fbb311d91fbcd6a4360918d67f20c71156b1b26093e"), looks := true }, kinds := [], alts := [], laidByText := true, laidKinds := [.data, .data, .data, .data, .sentinel, .sentinel, .pinned], laidTests := true, laidLooks := .later }
def ProductCatalogsCardSaid : Prop := Claim7.holds Tryd.pinned (.plain (OpenSpec.ofChange productCatalogsSpec)) productCatalogsCard

/-- THE SECOND FORM's CARD OF 'priceofficelaw09.ProductValid'. -/
def productValidUptoCard : Claim7 := { stood := { row := productValidUptoRow, standIns := [], harness := (true, "4208ae18efe3e3f5a8af8fbb311d91fbcd6a4360918d67f20c71156b1b26093e"), looks := true }, kinds := [], alts := [], laidByText := true, laidKinds := [.data, .data, .data, .data, .sentinel, .sentinel, .pinned], laidTests := true, laidLooks := .later }
def ProductValidUptoCardSaid : Prop := Claim7.holds Tryd.pinned (.plain (OpenSpec.upto productValidSpec)) productValidUptoCard

/-- THE SECOND FORM's CARD OF 'priceofficelaw09.ProductMany'. -/
def productManyUptoCard : Claim7 := { stood := { row := productManyUptoRow, standIns := [], harness := (true, "4208ae18efe3e3f5a8af8fbb311d91fbcd6a4360918d67f20c71156b1b26093e"), looks := true }, kinds := [], alts := [], laidByText := true, laidKinds := [.data, .data, .data, .data, .sentinel, .sentinel, .pinned], laidTests := true, laidLooks := .later }
def ProductManyUptoCardSaid : Prop := Claim7.holds Tryd.pinned (.plain (OpenSpec.upto productManySpec)) productManyUptoCard

/-- THE SECOND FORM's CARD OF 'priceofficelaw09.ProductCatalogs'. -/
def productCatalogsUptoCard : Claim7 := { stood := { row := productCatalogsUptoRow, standIns := [], harness := (true, "4208ae18efe3e3f5a8af8fbb311d91fbcd6a4360918d67f20c71156b1b26093e"), looks := true }, kinds := [], alts := [], laidByText := true, laidKinds := [.data, .data, .data, .data, .sentinel, .sentinel, .pinned], laidTests := true, laidLooks := .later }
def ProductCatalogsUptoCardSaid : Prop := Claim7.holds Tryd.pinned (.plain (OpenSpec.upto productCatalogsSpec)) productCatalogsUptoCard
end Rows
end Go.Proofs.YtnjaabibmgdeoaaDoor
