/- What all rows share: the context of the engine at this program. -/
import Derived.Test.YtgcboligphndhaaGreatDoorEn
import Derived.HandedShaped
import Derived.ProofKit
import Derived.Below
import Derived.Test.YtgcboligphndhaaGreatDoorEo
import Derived.Test.YtgcboligphndhaaGreatDoorRows
import Derived.Shelf.Vars
import Derived.FnData
import Derived.LaidLaws
import Derived.Deep.DeepLaidRun
import Derived.WalkKit
import Derived.OpenShut
import Derived.ShutString
import Derived.ChangeOld
namespace Go.Eng
open Go.Proofs Go.RowKit
variable {H : Type} {enc : TypeId × Value → H}
theorem handed_and_shaped {a : Assume} {C : Checked} {os : Os} {f : FuncId} {fn : Func} {s : ChangeSpec} {conds : List PathCond} {apart fresh handsOn again : Bool} {X : World → Array Value → Prop}
    (hX : ∀ (w w' : World) (args : Array Value), w.heap = w'.heap → X w args → X w' args)
    (own : ownKnob C.prog.godebug = none) (started : os.Started) (noInit : C.prog.inits.idxOf? f = none) (hfn : C.prog.funcs[f]? = some fn)
    (witness : ∃ (w : World) (tape : Tape) (i : Input), w.os = os ∧ (w.forCall tape i).Shaped C.prog ∧ i.vars = [] ∧ Input.okWide C.prog (w.forCall tape i) .any w.heap.size f i ∧
      ((s.pre enc C.prog fn conds apart (w.forCall tape i).memory i.args ∧ X (w.forCall tape i).memory i.args) ∧ sizedMet enc C.prog fn (OpenSpec.ofChange s) apart (w.forCall tape i).memory i.args) ∧ a.holds C.prog (lone (Frame.enter C.prog f i.args .normal) [] (w.forCall tape i)))
    (contract : ∀ (W : World) (base : Nat) (args : Array Value) (ds gs : List (DataW H)) (before : List MemPlace),
      (∀ (j : Nat) t v, fn.params[j]? = some t → args[j]? = some v → Value.okWide C.prog W .any base t v) →
      DataW.Whole enc C.prog fn.params.toList s.vars apart W args.toList ds gs before → X W args → W.ShapedOpen C.prog →
      Calls C.prog f args W fun e W' => ∃ v, e = .returned v ∧ s.post enc C.prog fn apart fresh handsOn again W args v W') :
    ReturnsInHanded a C os f .any (fun w args => (s.pre enc C.prog fn conds apart w args ∧ X w args) ∧ sizedMet enc C.prog fn (OpenSpec.ofChange s) apart w args) (s.post enc C.prog fn apart fresh handsOn again) := by
  refine returnsInHanded_of_calls own started noInit witness ?_
  intro w tape i _ hsh _ hok hpre _
  obtain ⟨_, _, _, fn', hfn', _, _, _, _, hval⟩ := hok
  have e : fn' = fn := Option.some.inj (hfn'.symm.trans hfn)
  subst e
  obtain ⟨⟨⟨ds, gs, before, hw, _⟩, hx⟩, _⟩ := hpre
  have hw' := DataW.Whole.of_heap (w' := w.forCall tape i) (by rfl) hw
  have hx' := hX _ (w.forCall tape i) i.args (by rfl) hx
  refine (contract (w.forCall tape i) w.heap.size i.args ds gs before hval hw' hx' hsh).mono fun e W' ⟨v, he, hp⟩ => ?_
  subst he
  exact ChangeSpec.post_blind hp
theorem ADet.top {C : Ctx} {f : FuncId} {args : List AV} {b : Bool} (h : ADet C f args [] (.bool b) []) {w : World} (hl : C.laid w) (hg : C.gsz ≤ w.heap.size) {cargs : List Value} (hlen : cargs.length = args.length)
    (hV : ∀ (j : Nat) v u, cargs[j]? = some v → args[j]? = some u → V w (fun _ => False) nob v u) : Calls C.P f cargs.toArray w fun e w' => e = .returned (.bool b) ∧ Below w.heap.size w w' := by
  have no : ∀ r, lkL [] r = none := fun r => by cases r <;> rfl
  have nm : ∀ b', ¬ mutB (lkL []) nob b' := by
    rintro b' ⟨r, o, c, ho, _⟩
    rw [no r] at ho; cases ho
  have hw : WRep C ⟨w, 0, nob, fun _ => False, fun _ => False⟩ (lkL []) nob w := {
    obj := fun r o ho => by rw [no r] at ho; cases ho
    sep := fun r r' o o' b c c' ho => by rw [no r] at ho; cases ho
    out := fun b hb => absurd hb (nm b)
    frz := fun r t sz n f b c ho => by rw [no r] at ho; cases ho
    high := fun b hb => by
      rcases hb with hb | hb
      · exact hb.elim
      · exact absurd hb (nm b)
    lt := fun r b c hb => by simp [nob] at hb
    outlt := fun b hb => hb.elim
    keep := fun b _ _ => rfl
    old := fun b hb => absurd hb (nm b)
    size := Nat.le_refl _
    pre := fun r x hr => absurd hr (Nat.not_lt_zero r)
    os := rfl
    tape := .refl _ _
    output := rfl
    laid := hl
    gle := hg }
  refine (h.2 ⟨w, 0, nob, fun _ => False, fun _ => False⟩ nob w cargs rfl rfl rfl hw (fun _ _ => rfl) hlen (fun j v u hv hu => (hV j v u hv hu).step_ (fun b _ _ hb => ?_) (fun _ _ _ => rfl) (Nat.le_refl _) nob (fun _ _ h => h))).mono ?_
  · rcases hb with hb | hb
    · exact hb
    · exact nm b hb
  · rintro e w' ⟨v, u, O', bs', rfl, ⟨rfl, rfl⟩, hw', hV', _⟩
    cases hV'
    exact ⟨rfl, hw'.os, hw'.tape.tape, hw'.output, hw'.size, fun i hi => hw'.keep i hi (fun h => h)⟩
theorem V_view {W : World} {A : Option Addr} {n c sz : Nat} (g : Nat → List AV) (hn : n ≤ c) (hc : c ≤ maxLen) (hl : ∀ i, i < n → (g i).length = sz)
    (h : n = 0 ∨ ∃ ad, A = some ad ∧ ad.block < W.heap.size ∧ ∀ i, i < n → ∀ j, j < sz → ∃ v, W.cell? (ad.add (i * sz + j)) = some v ∧ v.oneCell' = true ∧ ∀ u, (g i)[j]? = some u → V W (fun _ => False) nob v u) : V W (fun _ => False) nob (.slice A n c) (.view sz n g) := by
  rcases h with rfl | ⟨ad, rfl, hb, h⟩
  · exact .view ⟨0, 0, none⟩ (fun _ _ => default) hn hc (fun h => absurd h (by omega)) hl (fun i hi => by omega) (fun i hi => by omega) (fun i hi => by omega)
  · have hj : ∀ i, i < n → ∀ j u, (g i)[j]? = some u → j < sz := fun i hi j u hu => by
      have := (List.getElem?_eq_some_iff.1 hu).1
      rw [hl i hi] at this; exact this
    refine .view ad (fun i j => (W.cell? (ad.add (i * sz + j))).getD default) hn hc (fun _ => ⟨rfl, fun h => h, hb⟩) hl (fun i hi j hj => ?_) (fun i hi j hj => ?_) (fun i hi j u hu => ?_)
    · obtain ⟨v, h1, _⟩ := h i hi j hj
      rw [h1]; rfl
    · obtain ⟨v, h1, h2, _⟩ := h i hi j hj
      rw [h1]; exact h2
    · obtain ⟨v, h1, _, h3⟩ := h i hi j (hj i hi j u hu)
      rw [h1]; exact h3 u hu
end Go.Eng
namespace Go.Eng
open Go.Proofs Go.RowKit
variable {H : Type} {enc : TypeId × Value → H} {W : World}
noncomputable def fsOf (t : TypeId) : Array Field := match Tryz.prog.underlying t with
  | some (.struct fs) => fs
  | _ => #[]
theorem undIs : Tryz.prog.underlying 23 = some (.slice 3) := by kernel_rfl
theorem undI : Tryz.prog.underlying 3 = some (.int .i64) := by kernel_rfl
theorem undI2 : Tryz.prog.underlying 2 = some (.int .i64) := by kernel_rfl
theorem undS : Tryz.prog.underlying 9 = some .string := by kernel_rfl
theorem cI : Tryz.prog.cellsOf 3 = 1 := by kernel_rfl
theorem cI2 : Tryz.prog.cellsOf 2 = 1 := by kernel_rfl
theorem cS : Tryz.prog.cellsOf 9 = 1 := by kernel_rfl
theorem field {t : TypeId} {n : Nat} {cs : List Value} {xs : List (DataW H × List MemPlace)} {sp : Nat → Bool} {hd : Bool} (hl : xs.length = (fsOf t).size)
    (h : ∀ (i : Nat) (f : Field), (fsOf t)[i]? = some f → DataW.trod enc Tryz.prog W 0 sp hd n f.type ((cs.drop f.offset).take (Tryz.prog.cellsOf f.type)) = xs[i]?)
    (i : Nat) (ty : TypeId) (off : Nat) (hf : ((fsOf t)[i]?).map (fun f => (f.type, f.offset)) = some (ty, off)) : ∃ y, DataW.trod enc Tryz.prog W 0 sp hd n ty ((cs.drop off).take (Tryz.prog.cellsOf ty)) = some y := by
  obtain ⟨f, hf1, hf2⟩ := Option.map_eq_some_iff.1 hf
  simp only [Prod.mk.injEq] at hf2
  obtain ⟨rfl, rfl⟩ := hf2
  have hi : i < xs.length := by rw [hl]; exact (Array.getElem?_eq_some_iff.1 hf1).1
  exact ⟨xs[i], by rw [h i f hf1]; simp [hi]⟩
theorem addr_add (a : Addr) (i j : Nat) : (a.add i).add j = a.add (i + j) := by
  obtain ⟨b, o, e⟩ := a
  by_cases h1 : i = 0 <;> by_cases h2 : j = 0 <;> simp [Addr.add, h1, h2, Nat.add_assoc]
theorem add_block (a : Addr) (i : Nat) : (a.add i).block = a.block := by
  unfold Addr.add
  split <;> rfl
theorem read_ints {fuel : Nat} {cs : List Value} {x : DataW H × List MemPlace} {sp : Nat → Bool} {hd : Bool} (h : DataW.trod enc Tryz.prog W 0 sp hd fuel 23 cs = some x) :
    ∃ (A : Option Addr) (n c : Nat) (v : Nat → Int), cs = [.slice A n c] ∧ V W (fun _ => False) nob (.slice A n c) (.view 1 n (fun i => [.int .i64 (v i)])) := by
  rcases DataW.trod_slice undIs h with ⟨rfl, _⟩ | ⟨a, len, cap, elems, rest, n, _, rfl, _, hb, hl, hm, hlen, hel, _⟩
  · exact ⟨none, 0, 0, fun _ => 0, rfl, V_view _ (Nat.le_refl _) (Nat.zero_le _) (fun i hi => by omega) (.inl rfl)⟩
  · have hat : ∀ i, i < len → ∃ z, W.cell? (a.add i) = some (.int .i64 z) := by
      intro i hi
      have h1 := hel i hi
      rw [cI, Nat.mul_one, List.getElem?_eq_getElem (by omega), Option.bind_eq_some_iff] at h1
      obtain ⟨cs', hcs, hy⟩ := h1
      obtain ⟨z, rfl, _⟩ := DataW.trod_int undI hy
      obtain ⟨_, _, h2⟩ := World.cells?_some hcs
      have q0 := h2 0 (by omega)
      rw [addr_add, Nat.add_zero] at q0
      exact ⟨z, q0⟩
    refine ⟨some a, len, cap, fun i => match W.cell? (a.add i) with | some (.int .i64 z) => z | _ => 0, rfl, V_view _ hl hm (fun _ _ => rfl) ?_⟩
    by_cases h0 : len = 0
    · exact .inl h0
    · refine .inr ⟨a, rfl, ?_, fun i hi j hj => ?_⟩
      · have h1 := hel 0 (by omega)
        rw [List.getElem?_eq_getElem (show 0 < elems.length by omega), Option.bind_eq_some_iff] at h1
        obtain ⟨cs', hcs, _⟩ := h1
        rw [cI] at hcs
        have q := World.cells?_block hcs (by omega)
        rw [add_block] at q
        exact q
      · obtain rfl : j = 0 := by omega
        obtain ⟨z, hz⟩ := hat i hi
        rw [Nat.mul_one, Nat.add_zero]
        refine ⟨_, hz, rfl, fun u hu => ?_⟩
        dsimp only at hu
        rw [hz] at hu
        obtain rfl := Option.some.inj hu
        exact .int
end Go.Eng
namespace Go.Eng
open Go.Proofs Go.RowKit
variable {H : Type} {enc : TypeId × Value → H} {W : World}
theorem trod_iface {P : Program} {w : World} {base fuel : Nat} {t : TypeId} {ms} {cs : List Value} {name : String} {d : DataW H} {p : List MemPlace} {sp : Nat → Bool} {hd : Bool} (ht : P.underlying t = some (.interface ms))
    (h : DataW.trod enc P w base sp hd fuel t cs = some (.iface name d, p)) : ∃ u v, cs = [.iface u v] := by
  cases fuel with
  | zero => simp [DataW.trod] at h
  | succ n =>
    unfold DataW.trod at h
    rw [ht] at h
    split at h <;> simp_all
theorem laid_iface {n : String} {g : Nat} {t : TypeId} {ms} {w : World} {name : String} {d : DataW Unit} {r : List (String × DataW Unit)} {ps : List MemPlace} (hg : Tryz.prog.globalNamed n = some g) (ht : (Tryz.prog.globals[g]?).map (·.type) = some t) (hu : Tryz.prog.underlying t = some (.interface ms))
    (h : DataW.LaidVars Tryz.prog w ((n, .iface name d) :: r) ps) : ∃ u v, w.cell? ⟨g, 0, none⟩ = some (.iface u v) := by
  obtain ⟨g', t', cs, fuel, p, q, hg', ht', hv, htr, _, _⟩ := h
  obtain rfl := Option.some.inj (hg.symm.trans hg')
  obtain rfl := Option.some.inj (ht.symm.trans ht')
  obtain ⟨u, v, hc⟩ := trod_iface hu htr
  have := World.var?_cell hg hv 0
  refine ⟨u, v, this.trans ?_⟩
  rw [← Array.getElem?_toList, hc]; rfl
theorem laid_tail {w : World} {x : String × DataW Unit} {r : List (String × DataW Unit)} {ps : List MemPlace} (h : DataW.LaidVars Tryz.prog w (x :: r) ps) : ∃ q, DataW.LaidVars Tryz.prog w r q := by
  obtain ⟨_, _, _, _, _, q, _, _, _, _, h, _⟩ := h
  exact ⟨q, h⟩
theorem maxLen_of {w : World} (h : w.ShapedOpen Tryz.prog) : ∃ m, w.cell? ⟨0, 0, none⟩ = some (.int .i64 m) :=
  cell_of_shapedOpen_int (t := 3) (zero := #[.int .i64 0]) h (of_decide_eq_true (by kernel_rfl)) (by kernel_rfl) rfl (by kernel_rfl) (by kernel_rfl) (by kernel_rfl)
noncomputable def msE : Array (String × TypeId) := match Tryz.prog.underlying 160 with
  | some (.interface ms) => ms
  | _ => #[]
theorem gErrS : Tryz.prog.globalNamed "strconv.ErrSyntax" = some 4 := by kernel_rfl
theorem gErrR : Tryz.prog.globalNamed "strconv.ErrRange" = some 5 := by kernel_rfl
theorem laid_tab {w : World} {n : String} {k : IntKind} {zs : List Int} {r : List (String × DataW Unit)} {ps : List MemPlace} {g t e m : Nat} (hg : Tryz.prog.globalNamed n = some g) (hty : (Tryz.prog.globals[g]?).map (·.type) = some t) (ht : Tryz.prog.underlying t = some (.array m e))
    (he : Tryz.prog.underlying e = some (.int k)) (hce : Tryz.prog.cellsOf e = 1) (hct : Tryz.prog.cellsOf t = m) (h : DataW.LaidVars Tryz.prog w ((n, Lib.tabData k zs) :: r) ps) : Lib.TabIs Tryz.prog w n k zs := by
  obtain ⟨g', t', cs, fuel, p, q, hg', ht', hvar, hd, _, _⟩ := h
  obtain rfl := Option.some.inj (hg.symm.trans hg')
  obtain rfl := Option.some.inj (hty.symm.trans ht')
  unfold Lib.TabIs
  rw [hvar, ← Lib.cells_of_tab ht he hce hct hd]
theorem gPow : Tryz.prog.globalNamed "internal/strconv.uint64pow10" = some 1 := by kernel_rfl
noncomputable def tPow : TypeId := ((Tryz.prog.globals[1]?).map (·.type)).getD 0
noncomputable def ePow : TypeId := match Tryz.prog.underlying tPow with
  | some (.array _ e) => e
  | _ => 0
theorem powTab : (Go.Proofs.YtgcboligphndhaaGreatDoor.Rows.laid_internal_strconv_uint64pow10 : DataW Unit) = Lib.tabData .u64 Lib.pow10Tab := by kernel_rfl
theorem laidW_of {w : World} (hL : laidMetH Tryz.prog Go.Proofs.YtgcboligphndhaaGreatDoor.Rows.collectionMarksRow.laid w) (hsh : w.ShapedOpen Tryz.prog) : LaidW w := by
  have h' : laidMet Tryz.prog Go.Proofs.YtgcboligphndhaaGreatDoor.Rows.collectionMarksRow.laid w := hL
  obtain ⟨ps, h0, _⟩ := h'
  obtain ⟨_, h1⟩ := laid_tail h0
  obtain ⟨_, h2⟩ := laid_tail h1
  obtain ⟨_, h3⟩ := laid_tail h2
  obtain ⟨_, h4⟩ := laid_tail h3
  obtain ⟨_, h5⟩ := laid_tail h4
  exact ⟨maxLen_of hsh, laid_iface gErrS (t := 160) (ms := msE) (by kernel_rfl) (by kernel_rfl) h5, laid_iface gErrR (t := 160) (ms := msE) (by kernel_rfl) (by kernel_rfl) h4,
    laid_tab (r := _) gPow (t := tPow) (e := ePow) (m := 20) (by kernel_rfl) (by kernel_rfl) (by kernel_rfl) (by kernel_rfl) (by kernel_rfl) (powTab ▸ h2)⟩
end Go.Eng
namespace Go.Eng
open Go.Proofs Go.RowKit
def litV : DataW Unit → Value
  | .lit (.int k n) => .int k n
  | _ => default
def flatD : DataW Unit → List (DataW Unit)
  | .agg l => l
  | x => [x]
noncomputable def low : Nat := (World.holding Tryz.prog default ⟨#[], #[], []⟩).heap.size
noncomputable def laidWorld (os : Os) : World :=
  let w0 := World.holding Tryz.prog os ⟨#[.cells #[.string ⟨#[118, 97, 108, 117, 101, 32, 111, 117, 116, 32, 111, 102, 32, 114, 97, 110, 103, 101]⟩] 300, .cells #[.string ⟨#[105, 110, 118, 97, 108, 105, 100, 32, 115, 121, 110, 116, 97, 120]⟩] 300], #[], []⟩
  let put (h : Array Obj) (g : Nat) (cs : Array Value) : Array Obj := h.modify g fun
    | .cells _ t frozen => .cells cs t frozen
    | o => o
  let h1 := put w0.heap 2 ((flatD Go.Proofs.YtgcboligphndhaaGreatDoor.Rows.laid_math_bits_deBruijn32tab).map litV).toArray
  let h2 := put h1 3 ((flatD Go.Proofs.YtgcboligphndhaaGreatDoor.Rows.laid_math_bits_deBruijn64tab).map litV).toArray
  let h3 := put h2 1 ((flatD Go.Proofs.YtgcboligphndhaaGreatDoor.Rows.laid_internal_strconv_uint64pow10).map litV).toArray
  let h4 := put h3 7 (((flatD Go.Proofs.YtgcboligphndhaaGreatDoor.Rows.laid_unicode_utf8_acceptRanges).flatMap flatD).map litV).toArray
  let h5 := put h4 6 ((flatD Go.Proofs.YtgcboligphndhaaGreatDoor.Rows.laid_unicode_utf8_first).map litV).toArray
  let h6 := put h5 5 #[.iface 298 (.pointer (some ⟨low, 0, none⟩))]
  let h7 := put h6 4 #[.iface 298 (.pointer (some ⟨low + 1, 0, none⟩))]
  { w0 with heap := h7 }
theorem laid_met (os : Os) (args : Array Value) : laidMet Tryz.prog Go.Proofs.YtgcboligphndhaaGreatDoor.Rows.collectionMarksRow.laid ((laidWorld os).forCall (fun _ _ => 0) ⟨#[], args, []⟩).memory :=
  laidMet_of_run3 8 (by kernel_rfl) (by kernel_rfl) (by kernel_rfl)
end Go.Eng
namespace Go.Eng
open Go.Proofs Go.RowKit Go.ChangeShapes Go.WideShapes Go.ChangeAt
theorem mixedOK : Tryz.prog.follows .mixedOrders = true := by kernel_rfl
def gTop : Nat := max (max (max 0 4) 5) 1 + 1
theorem keepOK (w w' : World) (h : ∀ b, b < gTop → w'.heap[b]? = w.heap[b]?) (hl : LaidW w) : LaidW w' := by
  have k : ∀ g : Nat, g < gTop → w'.cell? ⟨g, 0, none⟩ = w.cell? ⟨g, 0, none⟩ := fun g hg => World.cell?_of_block (w := w) (h g hg)
  obtain ⟨h1, h2, h3, h4⟩ := hl
  refine ⟨by rw [k _ (by decide)]; exact h1, by rw [k _ (by decide)]; exact h2, by rw [k _ (by decide)]; exact h3, ?_⟩
  have e := h 1 (by decide)
  unfold Lib.TabIs at h4 ⊢
  rw [← h4]
  simp only [World.var?, gPow, Option.bind_some, e]
noncomputable def cx : Ctx := ⟨Tryz.prog, gTop, LaidW, mixedOK, keepOK, false⟩
instance : Ctx.Loose cx := ⟨rfl⟩
theorem cell_in {w : World} {g : Nat} {v : Value} (h : w.cell? ⟨g, 0, none⟩ = some v) : g < w.heap.size := by
  have hc : w.cells? 0 ⟨g, 0, none⟩ 1 = some [v] := Go.ChangeShapes.cells?_of (by omega) rfl (fun i hi => by
    obtain rfl : i = 0 := by omega
    exact h)
  exact World.cells?_block hc (by omega)
theorem gsz_le {w : World} (h : LaidW w) : cx.gsz ≤ w.heap.size := by
  obtain ⟨⟨_, h1⟩, ⟨_, _, h2⟩, ⟨_, _, h3⟩, h4⟩ := h
  have a := cell_in h1
  have b := cell_in h2
  have c := cell_in h3
  have d := cell_in (h4.cell gPow 0 (by decide))
  show max (max (max _ _) _) _ + 1 ≤ _
  omega
theorem ownK : ownKnob Tryz.prog.godebug = none := by kernel_rfl
theorem laidOut : laidOutB Tryz.prog = true := by kernel_rfl
end Go.Eng
