/- Lemmas that the tied card of ProductValid is proved by. -/
import Derived.Test.YtnjaabibmgdeoaaDoorKv
import Derived.LaidLaws
import Derived.Deep.DeepLaidRun
import Derived.Test.YtnjaabibmgdeoaaDoorKu
import Derived.WalkKit
import Derived.OpenShut
import Derived.ShutString
import Derived.ChangeOld
/- A world that meets the row's condition. -/
namespace Go.Eng
open Go.Proofs Go.RowKit

def litV : DataW Unit → Value
  | .lit (.int k n) => .int k n
  | _ => default
def flatD : DataW Unit → List (DataW Unit)
  | .agg l => l
  | x => [x]
noncomputable def low : Nat := (World.holding Tryd.prog default ⟨#[], #[], []⟩).heap.size
noncomputable def laidWorld (os : Os) : World :=
  let w0 := World.holding Tryd.prog os ⟨#[.cells #[.string ⟨#[118, 97, 108, 117, 101, 32, 111, 117, 116, 32, 111, 102, 32, 114, 97, 110, 103, 101]⟩] 119, .cells #[.string ⟨#[105, 110, 118, 97, 108, 105, 100, 32, 115, 121, 110, 116, 97, 120]⟩] 119], #[], []⟩
  let put (h : Array Obj) (g : Nat) (cs : Array Value) : Array Obj := h.modify g fun
    | .cells _ t frozen => .cells cs t frozen
    | o => o
  let h1 := put w0.heap 6 ((flatD Go.Proofs.YtnjaabibmgdeoaaDoor.Rows.laid_math_bits_deBruijn32tab).map litV).toArray
  let h2 := put h1 7 ((flatD Go.Proofs.YtnjaabibmgdeoaaDoor.Rows.laid_math_bits_deBruijn64tab).map litV).toArray
  let h3 := put h2 5 ((flatD Go.Proofs.YtnjaabibmgdeoaaDoor.Rows.laid_internal_strconv_uint64pow10).map litV).toArray
  let h4 := put h3 4 (((flatD Go.Proofs.YtnjaabibmgdeoaaDoor.Rows.laid_unicode_utf8_acceptRanges).flatMap flatD).map litV).toArray
  let h5 := put h4 3 ((flatD Go.Proofs.YtnjaabibmgdeoaaDoor.Rows.laid_unicode_utf8_first).map litV).toArray
  let h6 := put h5 2 #[.iface 117 (.pointer (some ⟨low, 0, none⟩))]
  let h7 := put h6 1 #[.iface 117 (.pointer (some ⟨low + 1, 0, none⟩))]
  { w0 with heap := h7 }
theorem laid_met (os : Os) (args : Array Value) : laidMet Tryd.prog Go.Proofs.YtnjaabibmgdeoaaDoor.Rows.productValidRow.laid ((laidWorld os).forCall (fun _ _ => 0) ⟨#[], args, []⟩).memory :=
  laidMet_of_run3 8 (by kernel_rfl) (by kernel_rfl) (by kernel_rfl)
end Go.Eng

/- The row of ProductValid. -/
namespace Go.Eng
open Go.Proofs Go.RowKit Go.ChangeShapes Go.WideShapes Go.ChangeAt
open Go.Proofs.YtnjaabibmgdeoaaDoor (Rows.productValidRow Rows.productValidSpec)

theorem mixedOK : Tryd.prog.follows .mixedOrders = true := by kernel_rfl
theorem keepOK (w w' : World) (h : ∀ b, b < max (max 0 1) 2 + 1 → w'.heap[b]? = w.heap[b]?) (hl : LaidW w) : LaidW w' := by
  have k : ∀ g : Nat, g < max (max 0 1) 2 + 1 → w'.cell? ⟨g, 0, none⟩ = w.cell? ⟨g, 0, none⟩ := fun g hg => World.cell?_of_block (w := w) (h g hg)
  obtain ⟨h1, h2, h3⟩ := hl
  exact ⟨by rw [k _ (by decide)]; exact h1, by rw [k _ (by decide)]; exact h2, by rw [k _ (by decide)]; exact h3⟩
noncomputable def cx : Ctx := ⟨Tryd.prog, max (max 0 1) 2 + 1, LaidW, mixedOK, keepOK⟩
theorem cell_in {w : World} {g : Nat} {v : Value} (h : w.cell? ⟨g, 0, none⟩ = some v) : g < w.heap.size := by
  have hc : w.cells? 0 ⟨g, 0, none⟩ 1 = some [v] := Go.ChangeShapes.cells?_of (by omega) rfl (fun i hi => by
    obtain rfl : i = 0 := by omega
    exact h)
  exact World.cells?_block hc (by omega)
theorem gsz_le {w : World} (h : LaidW w) : cx.gsz ≤ w.heap.size := by
  obtain ⟨⟨_, h1⟩, ⟨_, _, h2⟩, ⟨_, _, h3⟩⟩ := h
  have a := cell_in h1
  have b := cell_in h2
  have c := cell_in h3
  show max (max _ _) _ + 1 ≤ _
  omega
theorem ownK : ownKnob Tryd.prog.godebug = none := by kernel_rfl
theorem laidOut : laidOutB Tryd.prog = true := by kernel_rfl
theorem params3 : Tryd.f3.params = #[26, 27] := by kernel_rfl

set_option maxRecDepth 100000 in
theorem lifted (os : Os) (started : os.Started) (H : Type) (enc : TypeId × Value → H) :
    ReturnsInHanded {} Tryd.checked os 3 .any (fun w args => (Go.Proofs.YtnjaabibmgdeoaaDoor.Rows.productValidSpec.pre enc Tryd.prog Tryd.f3 [] false w args ∧ laidMetH Tryd.prog Go.Proofs.YtnjaabibmgdeoaaDoor.Rows.productValidRow.laid w) ∧ sizedMet enc Tryd.prog Tryd.f3 (OpenSpec.ofChange Go.Proofs.YtnjaabibmgdeoaaDoor.Rows.productValidSpec) false w args)
      (Go.Proofs.YtnjaabibmgdeoaaDoor.Rows.productValidSpec.post enc Tryd.prog Tryd.f3 false true false false) := by
  refine handed_and_shaped (C := Tryd.checked) (X := fun w _ => laidMetH Tryd.prog Go.Proofs.YtnjaabibmgdeoaaDoor.Rows.productValidRow.laid w) (fun _ _ _ hh h => h.of_heap hh) ownK started (by kernel_rfl) Tryd.func3
    (ChangeSpec.witness_at (enc := enc) (C := Tryd.checked) (os := os) (X := fun w _ => laidMetH Tryd.prog Go.Proofs.YtnjaabibmgdeoaaDoor.Rows.productValidRow.laid w) false (laidWorld os) #[.agg #[.string ⟨#[]⟩, .string ⟨#[]⟩, .string ⟨#[]⟩, .int .i64 0, .int .i64 0, .int .i64 0, .slice none 0 0], .slice none 0 0] 8 rfl (by kernel_rfl) (by kernel_rfl) (by kernel_rfl) (by kernel_rfl) (by kernel_rfl) (laid_met os _)) ?_
  intro W base args ds gs before hval0 hW hL hsh
  have hval : ∀ (j : Nat) t v, Tryd.f3.params[j]? = some t → args[j]? = some v → Value.okWide Tryd.prog W .any base t v := hval0
  have hW' := hW
  obtain ⟨p, q, hA0, hV, rfl, hfz, hnd⟩ := hW
  have hA : DataW.TrodAll enc Tryd.prog W 0 (fun _ => true) true Tryd.f3.params.toList args.toList ds p := hA0
  rw [params3] at hA hval
  obtain ⟨v0, vs0, d0, ds0, p0, q0, hargs, rfl, rfl, h0, r0⟩ := trodAll_cons hA
  obtain ⟨v1, vs1, d1, ds1, p1, q1, rfl, rfl, rfl, h1, r1⟩ := trodAll_cons r0
  obtain ⟨rfl, rfl, rfl⟩ := trodAll_nil r1
  obtain rfl : args = #[v0, v1] := by cases args; simp_all
  obtain ⟨rfl, rfl⟩ := trodVars_none hV
  obtain ⟨cs, rfl, hsz⟩ := okWide_struct undP (hval 0 _ v0 rfl rfl)
  obtain ⟨a1, len1, cap1, rfl⟩ := okWide_slice undIs (hval 1 27 v1 rfl rfl)
  have k0 := h0
  have k1 := h1
  have lt0 : ∀ x ∈ p0, x.block < W.heap.size := by obtain ⟨m, hm⟩ := k0; exact DataW.trod_lt m _ _ _ hm
  have lt1 : ∀ x ∈ p1, x.block < W.heap.size := by obtain ⟨m, hm⟩ := k1; exact DataW.trod_lt m _ _ _ hm
  obtain ⟨m0, hm0⟩ := h0
  obtain ⟨m1, hm1⟩ := h1
  have hm0 : DataW.trod enc Tryd.prog W 0 (fun _ => true) true m0 26 cs.toList = some (d0, p0) := hm0
  obtain ⟨id, code, brand, d, c, qq, n, nm, vl, V0⟩ := read_prod hm0
  obtain ⟨A1, n1, c1, v, e1, V1⟩ := read_ints hm1
  have e1 : [Value.slice a1 len1 cap1] = [Value.slice A1 n1 c1] := e1
  simp only [List.cons.injEq, and_true] at e1
  rw [← e1] at V1
  have lw := laidW_of hL hsh
  refine (ADet.top (C := cx) (pv_ok rfl (fun _ h => h) id code brand d c qq n nm vl n1 v) lw (gsz_le lw) (cargs := [.agg cs, .slice a1 len1 cap1]) rfl (fun j x u hx hu => ?_)).mono fun e W' ⟨he, bel⟩ => ?_
  · match j with
    | 0 => obtain rfl := Option.some.inj hx; obtain rfl := Option.some.inj hu; exact V0
    | 1 => obtain rfl := Option.some.inj hx; obtain rfl := Option.some.inj hu; exact V1
    | j + 2 => simp at hx
  · subst he
    exact ⟨_, rfl, _, _, _, [], _, [], hW', trodAll_mk1 (shut_bool (show Tryd.prog.underlying 4 = some .bool by kernel_rfl) _), (trodAll_cons_mk (Below.trod laidOut (by kernel_rfl) (of_decide_eq_true (by kernel_rfl)) k0 bel lt0) (trodAll_cons_mk (Below.trod laidOut (by kernel_rfl) (of_decide_eq_true (by kernel_rfl)) k1 bel lt1) trodAll_mk0)), rfl, bel.frame _, fun h => by cases h⟩

open Go.Proofs.YtnjaabibmgdeoaaDoor in
set_option maxRecDepth 100000 in
theorem over : Go.Proofs.YtnjaabibmgdeoaaDoor.Rows.productValidRow.holds Tryd.pinned (OpenSpec.ofChange Go.Proofs.YtnjaabibmgdeoaaDoor.Rows.productValidSpec) :=
  OpenClaim.holds_of_wide 3 Tryd.f3 rfl rfl rfl rfl rfl rfl rfl ⟨rfl, rfl, rfl, rfl, rfl⟩ rfl rfl rfl rfl rfl (by kernel_rfl) Tryd.func3 (by kernel_rfl)
    (of_decide_eq_true (by kernel_rfl)) (by unfold Func.isWrapper; rw [if_neg (of_decide_eq_false (by kernel_rfl))]; exact ⟨rfl, rfl⟩)
    (fun os started H enc _ => lifted os started H enc)
end Go.Eng

