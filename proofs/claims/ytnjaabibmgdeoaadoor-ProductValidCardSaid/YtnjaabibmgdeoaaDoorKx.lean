/- The tied card of ProductValid: its statement is 'ProductValidCardSaid' of the given cards. -/
import Derived.Test.YtnjaabibmgdeoaaDoorKw
import Derived.Test.YtnjaabibmgdeoaaDoorCards
import Derived.Test.YtnjaabibmgdeoaaDoorTie
import Derived.SevenTiedAt
/- The tied card of ProductValid. -/
namespace Go.Proofs.YtnjaabibmgdeoaaDoor
open Go

theorem card_holds : Rows.ProductValidCardSaid :=
  Claim7.holds_tied_plain_at .later [] [.data, .data, .data, .data, .sentinel, .sentinel, .pinned] true (true, "4208ae18efe3e3f5a8af8fbb311d91fbcd6a4360918d67f20c71156b1b26093e") true
    Go.Eng.over (fun _ h => by cases h) (by kernel_rfl) (fun _ h => by cases h) productValid_row_tie rfl ⟨rfl, rfl⟩ (by kernel_rfl) rfl
    (fun f fn hf hfn => by
      obtain rfl : f = 3 := Option.some.inj ((show Tryd.prog.funcNamed "priceoffice/priceofficelaw09.ProductValid" = some 3 by kernel_rfl).symm.trans hf) |>.symm
      obtain rfl : fn = Tryd.f3 := (Option.some.inj (Tryd.func3.symm.trans hfn)).symm
      exact ⟨by kernel_rfl, fun j t ht => by
        rw [Go.Eng.params3] at ht
        have h3 : t = 26 ∨ t = 27 := by
          rcases j with _ | _ | j
          · exact .inl (by simpa using ht.symm)
          · exact .inr (by simpa using ht.symm)
          · simp at ht
        rcases h3 with rfl | rfl
        · exact (show Tryd.prog.wantsStandIn 26 = false by kernel_rfl)
        · exact (show Tryd.prog.wantsStandIn 27 = false by kernel_rfl)⟩)
    (by kernel_rfl)
end Go.Proofs.YtnjaabibmgdeoaaDoor

