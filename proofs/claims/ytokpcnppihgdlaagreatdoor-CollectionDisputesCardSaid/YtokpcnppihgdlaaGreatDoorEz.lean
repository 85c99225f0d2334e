/- What all rows share: the context of the engine at this program. -/
import Derived.Test.YtokpcnppihgdlaaGreatDoorEy
import Derived.LaidLaws
import Derived.Deep.DeepLaidRun
import Derived.WalkKit
import Derived.OpenShut
import Derived.ShutString
import Derived.ChangeOld
namespace Go.Eng
open Go.Proofs Go.RowKit
def litV : DataW Unit → Value
  | .lit (.int k n) => .int k n
  | _ => default
def flatD : DataW Unit → List (DataW Unit)
  | .agg l => l
  | x => [x]
noncomputable def low : Nat := (World.holding Tryz.prog default ⟨#[], #[], []⟩).heap.size
noncomputable def laidWorld (os : Os) : World :=
  let w0 := World.holding Tryz.prog os ⟨#[.cells #[.string ⟨#[118, 97, 108, 117, 101, 32, 111, 117, 116, 32, 111, 102, 32, 114, 97, 110, 103, 101]⟩] 219, .cells #[.string ⟨#[105, 110, 118, 97, 108, 105, 100, 32, 115, 121, 110, 116, 97, 120]⟩] 219], #[], []⟩
  let put (h : Array Obj) (g : Nat) (cs : Array Value) : Array Obj := h.modify g fun
    | .cells _ t frozen => .cells cs t frozen
    | o => o
  let h1 := put w0.heap 6 ((flatD Go.Proofs.YtokpcnppihgdlaaGreatDoor.Rows.laid_math_bits_deBruijn32tab).map litV).toArray
  let h2 := put h1 7 ((flatD Go.Proofs.YtokpcnppihgdlaaGreatDoor.Rows.laid_math_bits_deBruijn64tab).map litV).toArray
  let h3 := put h2 5 ((flatD Go.Proofs.YtokpcnppihgdlaaGreatDoor.Rows.laid_internal_strconv_uint64pow10).map litV).toArray
  let h4 := put h3 2 (((flatD Go.Proofs.YtokpcnppihgdlaaGreatDoor.Rows.laid_unicode_utf8_acceptRanges).flatMap flatD).map litV).toArray
  let h5 := put h4 1 ((flatD Go.Proofs.YtokpcnppihgdlaaGreatDoor.Rows.laid_unicode_utf8_first).map litV).toArray
  let h6 := put h5 4 #[.iface 217 (.pointer (some ⟨low, 0, none⟩))]
  let h7 := put h6 3 #[.iface 217 (.pointer (some ⟨low + 1, 0, none⟩))]
  { w0 with heap := h7 }
theorem laid_met (os : Os) (args : Array Value) : laidMet Tryz.prog Go.Proofs.YtokpcnppihgdlaaGreatDoor.Rows.scannerValidRow.laid ((laidWorld os).forCall (fun _ _ => 0) ⟨#[], args, []⟩).memory :=
  laidMet_of_run3 8 (by kernel_rfl) (by kernel_rfl) (by kernel_rfl)
end Go.Eng
namespace Go.Eng
open Go.Proofs Go.RowKit Go.ChangeShapes Go.WideShapes Go.ChangeAt
theorem mixedOK : Tryz.prog.follows .mixedOrders = true := by kernel_rfl
theorem keepOK (w w' : World) (h : ∀ b, b < max (max 0 3) 4 + 1 → w'.heap[b]? = w.heap[b]?) (hl : LaidW w) : LaidW w' := by
  have k : ∀ g : Nat, g < max (max 0 3) 4 + 1 → w'.cell? ⟨g, 0, none⟩ = w.cell? ⟨g, 0, none⟩ := fun g hg => World.cell?_of_block (w := w) (h g hg)
  obtain ⟨h1, h2, h3⟩ := hl
  exact ⟨by rw [k _ (by decide)]; exact h1, by rw [k _ (by decide)]; exact h2, by rw [k _ (by decide)]; exact h3⟩
noncomputable def cx : Ctx := ⟨Tryz.prog, max (max 0 3) 4 + 1, LaidW, mixedOK, keepOK, false⟩
instance : Ctx.Loose cx := ⟨rfl⟩
theorem cell_in {w : World} {g : Nat} {v : Value} (h : w.cell? ⟨g, 0, none⟩ = some v) : g < w.heap.size := by
  have hc : w.cells? 0 ⟨g, 0, none⟩ 1 = some [v] := Go.ChangeShapes.cells?_of (by omega) rfl (fun i hi => by
    obtain rfl : i = 0 := by omega
    exact h)
  exact World.cells?_block hc (by omega)
theorem gsz_le {w : World} (h : LaidW w) : cx.gsz ≤ w.heap.size := by
  obtain ⟨⟨_, h1⟩, ⟨_, _, h2⟩, ⟨_, _, h3⟩⟩ := h
  have a := cell_in h1
  have b := cell_in h2
  have c := cell_in h3
  show max (max _ _) _ + 1 ≤ _
  omega
theorem ownK : ownKnob Tryz.prog.godebug = none := by kernel_rfl
theorem laidOut : laidOutB Tryz.prog = true := by kernel_rfl
end Go.Eng
