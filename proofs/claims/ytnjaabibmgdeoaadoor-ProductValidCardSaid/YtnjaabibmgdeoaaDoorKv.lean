/- Lemmas that the tied card of ProductValid is proved by. -/
import Derived.Test.YtnjaabibmgdeoaaDoorKk
import Derived.HandedShaped
import Derived.ProofKit
import Derived.Below
import Derived.Test.YtnjaabibmgdeoaaDoorKr
import Derived.Test.YtnjaabibmgdeoaaDoorKp
import Derived.Test.YtnjaabibmgdeoaaDoorRows
import Derived.Shelf.Vars
import Derived.FnData
/- From a row's arguments to the engine: what was read as data, told in abstract values; a call with no objects, told in the model's words. -/
namespace Go.Eng
open Go.Proofs Go.RowKit
variable {H : Type} {enc : TypeId × Value → H}

/-- The wrap with a condition on the world, the world's shape kept. -/
theorem handed_and_shaped {a : Assume} {C : Checked} {os : Os} {f : FuncId} {fn : Func} {s : ChangeSpec} {conds : List PathCond} {apart fresh handsOn again : Bool} {X : World → Array Value → Prop}
    (hX : ∀ (w w' : World) (args : Array Value), w.heap = w'.heap → X w args → X w' args)
    (own : ownKnob C.prog.godebug = none) (started : os.Started) (noInit : C.prog.inits.idxOf? f = none) (hfn : C.prog.funcs[f]? = some fn)
    (witness : ∃ (w : World) (tape : Tape) (i : Input), w.os = os ∧ (w.forCall tape i).Shaped C.prog ∧ i.vars = [] ∧ Input.okWide C.prog (w.forCall tape i) .any w.heap.size f i ∧
      ((s.pre enc C.prog fn conds apart (w.forCall tape i).memory i.args ∧ X (w.forCall tape i).memory i.args) ∧ sizedMet enc C.prog fn (OpenSpec.ofChange s) apart (w.forCall tape i).memory i.args) ∧ a.holds C.prog (lone (Frame.enter C.prog f i.args .normal) [] (w.forCall tape i)))
    (contract : ∀ (W : World) (base : Nat) (args : Array Value) (ds gs : List (DataW H)) (before : List MemPlace),
      (∀ (j : Nat) t v, fn.params[j]? = some t → args[j]? = some v → Value.okWide C.prog W .any base t v) →
      DataW.Whole enc C.prog fn.params.toList s.vars apart W args.toList ds gs before → X W args → W.ShapedOpen C.prog →
      Calls C.prog f args W fun e W' => ∃ v, e = .returned v ∧ s.post enc C.prog fn apart fresh handsOn again W args v W') :
    ReturnsInHanded a C os f .any (fun w args => (s.pre enc C.prog fn conds apart w args ∧ X w args) ∧ sizedMet enc C.prog fn (OpenSpec.ofChange s) apart w args) (s.post enc C.prog fn apart fresh handsOn again) := by
  refine returnsInHanded_of_calls own started noInit witness ?_
  intro w tape i _ hsh _ hok hpre _
  obtain ⟨_, _, _, fn', hfn', _, _, _, _, hval⟩ := hok
  have e : fn' = fn := Option.some.inj (hfn'.symm.trans hfn)
  subst e
  obtain ⟨⟨⟨ds, gs, before, hw, _⟩, hx⟩, _⟩ := hpre
  have hw' := DataW.Whole.of_heap (w' := w.forCall tape i) (by rfl) hw
  have hx' := hX _ (w.forCall tape i) i.args (by rfl) hx
  refine (contract (w.forCall tape i) w.heap.size i.args ds gs before hval hw' hx' hsh).mono fun e W' ⟨v, he, hp⟩ => ?_
  subst he
  exact ChangeSpec.post_blind hp

/-- A call with no objects, from outside. -/
theorem ADet.top {C : Ctx} {f : FuncId} {args : List AV} {b : Bool} (h : ADet C f args [] (.bool b) []) {w : World} (hl : C.laid w) (hg : C.gsz ≤ w.heap.size) {cargs : List Value} (hlen : cargs.length = args.length)
    (hV : ∀ (j : Nat) v u, cargs[j]? = some v → args[j]? = some u → V w (fun _ => False) nob v u) : Calls C.P f cargs.toArray w fun e w' => e = .returned (.bool b) ∧ Below w.heap.size w w' := by
  have no : ∀ r, lkL [] r = none := fun r => by cases r <;> rfl
  have nm : ∀ b', ¬ mutB (lkL []) nob b' := by
    rintro b' ⟨r, o, c, ho, _⟩
    rw [no r] at ho; cases ho
  have hw : WRep C ⟨w, 0, nob, fun _ => False, fun _ => False⟩ (lkL []) nob w := {
    obj := fun r o ho => by rw [no r] at ho; cases ho
    sep := fun r r' o o' b c c' ho => by rw [no r] at ho; cases ho
    out := fun b hb => absurd hb (nm b)
    frz := fun r t sz n f b c ho => by rw [no r] at ho; cases ho
    high := fun b hb => by
      rcases hb with hb | hb
      · exact hb.elim
      · exact absurd hb (nm b)
    lt := fun r b c hb => by simp [nob] at hb
    outlt := fun b hb => hb.elim
    keep := fun b _ _ => rfl
    old := fun b hb => absurd hb (nm b)
    size := Nat.le_refl _
    pre := fun r x hr => absurd hr (Nat.not_lt_zero r)
    os := rfl
    tape := rfl
    output := rfl
    laid := hl
    gle := hg }
  refine (h.2 ⟨w, 0, nob, fun _ => False, fun _ => False⟩ nob w cargs rfl rfl rfl hw (fun _ _ => rfl) hlen (fun j v u hv hu => (hV j v u hv hu).step_ (fun b _ _ hb => ?_) (fun _ _ _ => rfl) (Nat.le_refl _) nob (fun _ _ h => h))).mono ?_
  · rcases hb with hb | hb
    · exact hb
    · exact nm b hb
  · rintro e w' ⟨v, u, O', bs', rfl, ⟨rfl, rfl⟩, hw', hV', _⟩
    cases hV'
    exact ⟨rfl, hw'.os, hw'.tape, hw'.output, hw'.size, fun i hi => hw'.keep i hi (fun h => h)⟩

theorem V_view {W : World} {A : Option Addr} {n c sz : Nat} (g : Nat → List AV) (hn : n ≤ c) (hc : c ≤ maxLen) (hl : ∀ i, i < n → (g i).length = sz)
    (h : n = 0 ∨ ∃ ad, A = some ad ∧ ad.block < W.heap.size ∧ ∀ i, i < n → ∀ j, j < sz → ∃ v, W.cell? (ad.add (i * sz + j)) = some v ∧ v.oneCell' = true ∧ ∀ u, (g i)[j]? = some u → V W (fun _ => False) nob v u) : V W (fun _ => False) nob (.slice A n c) (.view sz n g) := by
  rcases h with rfl | ⟨ad, rfl, hb, h⟩
  · exact .view ⟨0, 0, none⟩ (fun _ _ => default) hn hc (fun h => absurd h (by omega)) hl (fun i hi => by omega) (fun i hi => by omega) (fun i hi => by omega)
  · have hj : ∀ i, i < n → ∀ j u, (g i)[j]? = some u → j < sz := fun i hi j u hu => by
      have := (List.getElem?_eq_some_iff.1 hu).1
      rw [hl i hi] at this; exact this
    refine .view ad (fun i j => (W.cell? (ad.add (i * sz + j))).getD default) hn hc (fun _ => ⟨rfl, fun h => h, hb⟩) hl (fun i hi j hj => ?_) (fun i hi j hj => ?_) (fun i hi j u hu => ?_)
    · obtain ⟨v, h1, _⟩ := h i hi j hj
      rw [h1]; rfl
    · obtain ⟨v, h1, h2, _⟩ := h i hi j hj
      rw [h1]; exact h2
    · obtain ⟨v, h1, _, h3⟩ := h i hi j (hj i hi j u hu)
      rw [h1]; exact h3 u hu

end Go.Eng

/- The row's arguments, read as data, told in abstract values. -/
namespace Go.Eng
open Go.Proofs Go.RowKit
variable {H : Type} {enc : TypeId × Value → H} {W : World}

noncomputable def fsOf (t : TypeId) : Array Field := match Tryd.prog.underlying t with
  | some (.struct fs) => fs
  | _ => #[]
theorem undP : Tryd.prog.underlying 26 = some (.struct (fsOf 26)) := by kernel_rfl
theorem undQ : Tryd.prog.underlying 23 = some (.struct (fsOf 23)) := by kernel_rfl
theorem undA : Tryd.prog.underlying 52 = some (.struct (fsOf 52)) := by kernel_rfl
theorem undAs : Tryd.prog.underlying 24 = some (.slice 52) := by kernel_rfl
theorem undIs : Tryd.prog.underlying 27 = some (.slice 3) := by kernel_rfl
theorem undI : Tryd.prog.underlying 3 = some (.int .i64) := by kernel_rfl
theorem undI2 : Tryd.prog.underlying 2 = some (.int .i64) := by kernel_rfl
theorem undS : Tryd.prog.underlying 9 = some .string := by kernel_rfl
theorem cP : Tryd.prog.cellsOf 26 = 7 := by kernel_rfl
theorem cQ : Tryd.prog.cellsOf 23 = 3 := by kernel_rfl
theorem cA : Tryd.prog.cellsOf 52 = 2 := by kernel_rfl
theorem cI : Tryd.prog.cellsOf 3 = 1 := by kernel_rfl
theorem cI2 : Tryd.prog.cellsOf 2 = 1 := by kernel_rfl
theorem cS : Tryd.prog.cellsOf 9 = 1 := by kernel_rfl
theorem cAs : Tryd.prog.cellsOf 24 = 1 := by kernel_rfl

/-- A field's cells, read. -/
theorem field {t : TypeId} {n : Nat} {cs : List Value} {xs : List (DataW H × List MemPlace)} {sp : Nat → Bool} {hd : Bool} (hl : xs.length = (fsOf t).size)
    (h : ∀ (i : Nat) (f : Field), (fsOf t)[i]? = some f → DataW.trod enc Tryd.prog W 0 sp hd n f.type ((cs.drop f.offset).take (Tryd.prog.cellsOf f.type)) = xs[i]?)
    (i : Nat) (ty : TypeId) (off : Nat) (hf : ((fsOf t)[i]?).map (fun f => (f.type, f.offset)) = some (ty, off)) : ∃ y, DataW.trod enc Tryd.prog W 0 sp hd n ty ((cs.drop off).take (Tryd.prog.cellsOf ty)) = some y := by
  obtain ⟨f, hf1, hf2⟩ := Option.map_eq_some_iff.1 hf
  simp only [Prod.mk.injEq] at hf2
  obtain ⟨rfl, rfl⟩ := hf2
  have hi : i < xs.length := by rw [hl]; exact (Array.getElem?_eq_some_iff.1 hf1).1
  exact ⟨xs[i], by rw [h i f hf1]; simp [hi]⟩

theorem addr_add (a : Addr) (i j : Nat) : (a.add i).add j = a.add (i + j) := by
  obtain ⟨b, o, e⟩ := a
  by_cases h1 : i = 0 <;> by_cases h2 : j = 0 <;> simp [Addr.add, h1, h2, Nat.add_assoc]
theorem add_block (a : Addr) (i : Nat) : (a.add i).block = a.block := by
  unfold Addr.add
  split <;> rfl
theorem list2 {l : List Value} (h : l.length = 2) : ∃ a b, l = [a, b] := by
  match l, h with
  | [a, b], _ => exact ⟨a, b, rfl⟩
theorem list3 {l : List Value} (h : l.length = 3) : ∃ a b c, l = [a, b, c] := by
  match l, h with
  | [a, b, c], _ => exact ⟨a, b, c, rfl⟩
theorem list7 {l : List Value} (h : l.length = 7) : ∃ a b c d e f g, l = [a, b, c, d, e, f, g] := by
  match l, h with
  | [a, b, c, d, e, f, g], _ => exact ⟨a, b, c, d, e, f, g, rfl⟩

theorem read_attr {fuel : Nat} {cs : List Value} {x : DataW H × List MemPlace} {sp : Nat → Bool} {hd : Bool} (h : DataW.trod enc Tryd.prog W 0 sp hd fuel 52 cs = some x) : ∃ s1 s2 : ByteArray, cs = [.string s1, .string s2] := by
  obtain ⟨xs, n, rfl, _, hc, hl, hf⟩ := DataW.trod_struct undA h
  rw [cA] at hc
  obtain ⟨a, b, rfl⟩ := list2 hc
  obtain ⟨y0, h0⟩ := field hl hf 0 9 0 (by kernel_rfl)
  obtain ⟨y1, h1⟩ := field hl hf 1 9 1 (by kernel_rfl)
  rw [cS] at h0 h1
  obtain ⟨s0, e0, _⟩ := DataW.trod_string undS h0
  obtain ⟨s1, e1, _⟩ := DataW.trod_string undS h1
  simp at e0 e1
  exact ⟨s0, s1, by rw [e0, e1]⟩

theorem read_ints {fuel : Nat} {cs : List Value} {x : DataW H × List MemPlace} {sp : Nat → Bool} {hd : Bool} (h : DataW.trod enc Tryd.prog W 0 sp hd fuel 27 cs = some x) :
    ∃ (A : Option Addr) (n c : Nat) (v : Nat → Int), cs = [.slice A n c] ∧ V W (fun _ => False) nob (.slice A n c) (.view 1 n (fun i => [.int .i64 (v i)])) := by
  rcases DataW.trod_slice undIs h with ⟨rfl, _⟩ | ⟨a, len, cap, elems, rest, n, _, rfl, _, hb, hl, hm, hlen, hel, _⟩
  · exact ⟨none, 0, 0, fun _ => 0, rfl, V_view _ (Nat.le_refl _) (Nat.zero_le _) (fun i hi => by omega) (.inl rfl)⟩
  · have hat : ∀ i, i < len → ∃ z, W.cell? (a.add i) = some (.int .i64 z) := by
      intro i hi
      have h1 := hel i hi
      rw [cI, Nat.mul_one, List.getElem?_eq_getElem (by omega), Option.bind_eq_some_iff] at h1
      obtain ⟨cs', hcs, hy⟩ := h1
      obtain ⟨z, rfl, _⟩ := DataW.trod_int undI hy
      obtain ⟨_, _, h2⟩ := World.cells?_some hcs
      have q0 := h2 0 (by omega)
      rw [addr_add, Nat.add_zero] at q0
      exact ⟨z, q0⟩
    refine ⟨some a, len, cap, fun i => match W.cell? (a.add i) with | some (.int .i64 z) => z | _ => 0, rfl, V_view _ hl hm (fun _ _ => rfl) ?_⟩
    by_cases h0 : len = 0
    · exact .inl h0
    · refine .inr ⟨a, rfl, ?_, fun i hi j hj => ?_⟩
      · have h1 := hel 0 (by omega)
        rw [List.getElem?_eq_getElem (show 0 < elems.length by omega), Option.bind_eq_some_iff] at h1
        obtain ⟨cs', hcs, _⟩ := h1
        rw [cI] at hcs
        have q := World.cells?_block hcs (by omega)
        rw [add_block] at q
        exact q
      · obtain rfl : j = 0 := by omega
        obtain ⟨z, hz⟩ := hat i hi
        rw [Nat.mul_one, Nat.add_zero]
        refine ⟨_, hz, rfl, fun u hu => ?_⟩
        dsimp only at hu
        rw [hz] at hu
        obtain rfl := Option.some.inj hu
        exact .int

theorem read_attrs {fuel : Nat} {cs : List Value} {x : DataW H × List MemPlace} {sp : Nat → Bool} {hd : Bool} (h : DataW.trod enc Tryd.prog W 0 sp hd fuel 24 cs = some x) :
    ∃ (A : Option Addr) (n c : Nat) (nm vl : Nat → List UInt8), cs = [.slice A n c] ∧ V W (fun _ => False) nob (.slice A n c) (.view 2 n (atRow nm vl)) := by
  rcases DataW.trod_slice undAs h with ⟨rfl, _⟩ | ⟨a, len, cap, elems, rest, n, _, rfl, _, hb, hl, hm, hlen, hel, _⟩
  · exact ⟨none, 0, 0, fun _ => [], fun _ => [], rfl, V_view _ (Nat.le_refl _) (Nat.zero_le _) (fun i hi => by omega) (.inl rfl)⟩
  · have hat : ∀ i, i < len → ∃ s1 s2 : ByteArray, W.cell? (a.add (i * 2 + 0)) = some (.string s1) ∧ W.cell? (a.add (i * 2 + 1)) = some (.string s2) := by
      intro i hi
      have h1 := hel i hi
      rw [cA, List.getElem?_eq_getElem (by omega), Option.bind_eq_some_iff] at h1
      obtain ⟨cs', hcs, hy⟩ := h1
      obtain ⟨s1, s2, rfl⟩ := read_attr hy
      obtain ⟨_, _, h2⟩ := World.cells?_some hcs
      have q0 := h2 0 (by omega)
      have q1 := h2 1 (by omega)
      rw [addr_add] at q0 q1
      exact ⟨s1, s2, q0, q1⟩
    let tx : Addr → List UInt8 := fun p => match W.cell? p with
      | some (.string s) => s.data.toList
      | _ => []
    refine ⟨some a, len, cap, fun i => tx (a.add (i * 2 + 0)), fun i => tx (a.add (i * 2 + 1)), rfl, V_view _ hl hm (fun _ _ => rfl) ?_⟩
    by_cases h0 : len = 0
    · exact .inl h0
    · refine .inr ⟨a, rfl, ?_, fun i hi j hj => ?_⟩
      · have h1 := hel 0 (by omega)
        rw [List.getElem?_eq_getElem (show 0 < elems.length by omega), Option.bind_eq_some_iff] at h1
        obtain ⟨cs', hcs, _⟩ := h1
        rw [cA] at hcs
        have q := World.cells?_block hcs (by omega)
        rw [add_block] at q
        exact q
      · obtain ⟨s1, s2, e1, e2⟩ := hat i hi
        have t1 : tx (a.add (i * 2 + 0)) = s1.data.toList := by
          show (match W.cell? (a.add (i * 2 + 0)) with | some (.string s) => s.data.toList | _ => []) = _
          rw [e1]
        have t2 : tx (a.add (i * 2 + 1)) = s2.data.toList := by
          show (match W.cell? (a.add (i * 2 + 1)) with | some (.string s) => s.data.toList | _ => []) = _
          rw [e2]
        match j with
        | 0 =>
          refine ⟨_, e1, rfl, fun u hu => ?_⟩
          have hu : some (AV.str (tx (a.add (i * 2 + 0)))) = some u := hu
          rw [t1] at hu
          obtain rfl := Option.some.inj hu
          exact .str rfl
        | 1 =>
          refine ⟨_, e2, rfl, fun u hu => ?_⟩
          have hu : some (AV.str (tx (a.add (i * 2 + 1)))) = some u := hu
          rw [t2] at hu
          obtain rfl := Option.some.inj hu
          exact .str rfl

theorem read_prod {cs : Array Value} {fuel : Nat} {x : DataW H × List MemPlace} {sp : Nat → Bool} {hd : Bool} (h : DataW.trod enc Tryd.prog W 0 sp hd fuel 26 cs.toList = some x) :
    ∃ (id code brand : List UInt8) (d c q : Int) (n : Nat) (nm vl : Nat → List UInt8), V W (fun _ => False) nob (.agg cs) (.agg [.str id, .str code, .str brand, .int .i64 d, .int .i64 c, .int .i64 q, .view 2 n (atRow nm vl)]) := by
  obtain ⟨xs, n, rfl, _, hc, hl, hf⟩ := DataW.trod_struct undP h
  rw [cP] at hc
  obtain ⟨v0, v1, v2, v3, v4, v5, v6, hcs⟩ := list7 hc
  rw [hcs] at hf
  obtain ⟨y0, h0⟩ := field hl hf 0 9 0 (by kernel_rfl)
  obtain ⟨y1, h1⟩ := field hl hf 1 9 1 (by kernel_rfl)
  obtain ⟨y2, h2⟩ := field hl hf 2 9 2 (by kernel_rfl)
  obtain ⟨y3, h3⟩ := field hl hf 3 23 3 (by kernel_rfl)
  obtain ⟨y4, h4⟩ := field hl hf 4 24 6 (by kernel_rfl)
  rw [cS] at h0 h1 h2
  rw [cQ] at h3
  rw [cAs] at h4
  obtain ⟨s0, e0, _⟩ := DataW.trod_string undS h0
  obtain ⟨s1, e1, _⟩ := DataW.trod_string undS h1
  obtain ⟨s2, e2, _⟩ := DataW.trod_string undS h2
  simp at e0 e1 e2
  obtain ⟨A, m, c, nm, vl, e6, hV⟩ := read_attrs h4
  simp at e6
  obtain ⟨xs', n', _, _, hc', hl', hf'⟩ := DataW.trod_struct undQ h3
  obtain ⟨z0, g0⟩ := field hl' hf' 0 3 0 (by kernel_rfl)
  obtain ⟨z1, g1⟩ := field hl' hf' 1 3 1 (by kernel_rfl)
  obtain ⟨z2, g2⟩ := field hl' hf' 2 2 2 (by kernel_rfl)
  rw [cI] at g0 g1
  rw [cI2] at g2
  obtain ⟨i0, k0, _⟩ := DataW.trod_int undI g0
  obtain ⟨i1, k1, _⟩ := DataW.trod_int undI g1
  obtain ⟨i2, k2, _⟩ := DataW.trod_int undI2 g2
  simp at k0 k1 k2
  subst e0 e1 e2 e6 k0 k1 k2
  refine ⟨s0.data.toList, s1.data.toList, s2.data.toList, i0, i1, i2, m, nm, vl, .agg ?_ ?_ ?_⟩
  · have : cs.size = 7 := by simpa using hc
    simpa using this
  · intro j v hv
    have hv : cs.toList[j]? = some v := by simpa using hv
    rw [hcs] at hv
    match j with
    | 0 => obtain rfl := Option.some.inj hv; rfl
    | 1 => obtain rfl := Option.some.inj hv; rfl
    | 2 => obtain rfl := Option.some.inj hv; rfl
    | 3 => obtain rfl := Option.some.inj hv; rfl
    | 4 => obtain rfl := Option.some.inj hv; rfl
    | 5 => obtain rfl := Option.some.inj hv; rfl
    | 6 => obtain rfl := Option.some.inj hv; rfl
    | j + 7 => simp at hv
  · intro j v u hv hu
    have hv : cs.toList[j]? = some v := by simpa using hv
    rw [hcs] at hv
    match j with
    | 0 => obtain rfl := Option.some.inj hv; obtain rfl := Option.some.inj hu; exact .str rfl
    | 1 => obtain rfl := Option.some.inj hv; obtain rfl := Option.some.inj hu; exact .str rfl
    | 2 => obtain rfl := Option.some.inj hv; obtain rfl := Option.some.inj hu; exact .str rfl
    | 3 => obtain rfl := Option.some.inj hv; obtain rfl := Option.some.inj hu; exact .int
    | 4 => obtain rfl := Option.some.inj hv; obtain rfl := Option.some.inj hu; exact .int
    | 5 => obtain rfl := Option.some.inj hv; obtain rfl := Option.some.inj hu; exact .int
    | 6 => obtain rfl := Option.some.inj hv; obtain rfl := Option.some.inj hu; exact hV
    | j + 7 => simp at hv
end Go.Eng

/- What the row's laid variables give the walk. -/
namespace Go.Eng
open Go.Proofs Go.RowKit
variable {H : Type} {enc : TypeId × Value → H} {W : World}

theorem trod_iface {P : Program} {w : World} {base fuel : Nat} {t : TypeId} {ms} {cs : List Value} {name : String} {d : DataW H} {p : List MemPlace} {sp : Nat → Bool} {hd : Bool} (ht : P.underlying t = some (.interface ms))
    (h : DataW.trod enc P w base sp hd fuel t cs = some (.iface name d, p)) : ∃ u v, cs = [.iface u v] := by
  cases fuel with
  | zero => simp [DataW.trod] at h
  | succ n =>
    unfold DataW.trod at h
    rw [ht] at h
    split at h <;> simp_all

theorem laid_iface {n : String} {g : Nat} {t : TypeId} {ms} {w : World} {name : String} {d : DataW Unit} {r : List (String × DataW Unit)} {ps : List MemPlace} (hg : Tryd.prog.globalNamed n = some g) (ht : (Tryd.prog.globals[g]?).map (·.type) = some t) (hu : Tryd.prog.underlying t = some (.interface ms))
    (h : DataW.LaidVars Tryd.prog w ((n, .iface name d) :: r) ps) : ∃ u v, w.cell? ⟨g, 0, none⟩ = some (.iface u v) := by
  obtain ⟨g', t', cs, fuel, p, q, hg', ht', hv, htr, _, _⟩ := h
  obtain rfl := Option.some.inj (hg.symm.trans hg')
  obtain rfl := Option.some.inj (ht.symm.trans ht')
  obtain ⟨u, v, hc⟩ := trod_iface hu htr
  have := World.var?_cell hg hv 0
  refine ⟨u, v, this.trans ?_⟩
  rw [← Array.getElem?_toList, hc]; rfl
theorem laid_tail {w : World} {x : String × DataW Unit} {r : List (String × DataW Unit)} {ps : List MemPlace} (h : DataW.LaidVars Tryd.prog w (x :: r) ps) : ∃ q, DataW.LaidVars Tryd.prog w r q := by
  obtain ⟨_, _, _, _, _, q, _, _, _, _, h, _⟩ := h
  exact ⟨q, h⟩

theorem maxLen_of {w : World} (h : w.ShapedOpen Tryd.prog) : ∃ m, w.cell? ⟨0, 0, none⟩ = some (.int .i64 m) :=
  cell_of_shapedOpen_int (t := 3) (zero := #[.int .i64 0]) h (of_decide_eq_true (by kernel_rfl)) (by kernel_rfl) rfl (by kernel_rfl) (by kernel_rfl) (by kernel_rfl)
theorem gErrS : Tryd.prog.globalNamed "strconv.ErrSyntax" = some 1 := by kernel_rfl
theorem gErrR : Tryd.prog.globalNamed "strconv.ErrRange" = some 2 := by kernel_rfl
theorem laidW_of {w : World} (hL : laidMetH Tryd.prog Go.Proofs.YtnjaabibmgdeoaaDoor.Rows.productValidRow.laid w) (hsh : w.ShapedOpen Tryd.prog) : LaidW w := by
  have h' : laidMet Tryd.prog Go.Proofs.YtnjaabibmgdeoaaDoor.Rows.productValidRow.laid w := hL
  obtain ⟨ps, h0, _⟩ := h'
  obtain ⟨_, h1⟩ := laid_tail h0
  obtain ⟨_, h2⟩ := laid_tail h1
  obtain ⟨_, h3⟩ := laid_tail h2
  obtain ⟨_, h4⟩ := laid_tail h3
  obtain ⟨_, h5⟩ := laid_tail h4
  exact ⟨maxLen_of hsh, laid_iface gErrS (t := 73) (ms := #[("Error", 135)]) (by kernel_rfl) (by kernel_rfl) h5, laid_iface gErrR (t := 73) (ms := #[("Error", 135)]) (by kernel_rfl) (by kernel_rfl) h4⟩
end Go.Eng

