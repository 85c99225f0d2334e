/- Lemmas that the tied card of CollectionUnion is proved by. -/
import Derived.Test.YtokpcnppihgdlaaGreatDoorNl
import Derived.Test.YtokpcnppihgdlaaGreatDoorNm
import Derived.KernelRfl
import Derived.HandedShaped
import Derived.ProofKit
import Derived.Below
import Derived.Lib.AtoiAll
import Derived.Lib.ItoaNum
import Derived.Lib.Split
import Derived.Lib.CountLaws
import Derived.Shelf.Small.Utf8
import Derived.Shelf.Small.Bits
import Derived.Shelf.Small.Strs
import Derived.Shelf.Strconv.Atoi
import Derived.Shelf.Strconv.Itoa0
import Derived.Shelf.Strconv.Itoa1
import Derived.Shelf.LaysM
import Derived.Shelf.Strconv.Itoa2
import Derived.Shelf.Strconv.Itoa3
import Derived.Shelf.Strconv.AtoiErrFast
import Derived.Shelf.Strconv.ParseIntEmpty
import Derived.Shelf.Strconv.AtoiFail
import Derived.Shelf.Strconv.Clone
import Derived.Shelf.Strconv.SyntaxError
import Derived.Shelf.LaysC
import Derived.Shelf.Strconv.ToError
import Derived.Shelf.Strconv.Lower
import Derived.Shelf.Strconv.ParseUint10
import Derived.Shelf.Strconv.ParseUint10Empty
import Derived.Shelf.Strconv.ParseUint10Any
import Derived.Shelf.Strconv.ParseInt10
import Derived.Shelf.Strconv.AtoiLong
import Derived.Shelf.Strconv.AtoiInnerAll
import Derived.Shelf.Strconv.RangeError
import Derived.Shelf.Strconv.ToErrorRange
import Derived.Shelf.Strconv.AtoiAll
import Derived.Shelf.Strings.Search1
import Derived.Shelf.Strings.Search2
import Derived.Shelf.Strings.Search3
import Derived.Shelf.Strings.Count
import Derived.Shelf.Strings.Shaped
import Derived.Shelf.Strings.Split
import Derived.Shelf.Strings.Runes
import Derived.Shelf.Strings.AsciiSet
import Derived.Shelf.Unicode.DecodeSlow
import Derived.Test.YtokpcnppihgdlaaGreatDoorProg
import Derived.Lib.IndexLaws
/- The program's types. -/
namespace Go.Eng
open Go.Proofs

theorem prg {C : Ctx} (hP : C.P = Tryz.prog) : Prg C te := ⟨hP ▸ te_ok, te_one⟩

end Go.Eng
/- From a row's arguments to the engine: what was read as data, told in abstract values; a call with no objects, told in the model's words. -/
namespace Go.Eng
open Go.Proofs Go.RowKit
variable {H : Type} {enc : TypeId × Value → H}

/-- The wrap with a condition on the world, the world's shape kept. -/
theorem handed_and_shaped {a : Assume} {C : Checked} {os : Os} {f : FuncId} {fn : Func} {s : ChangeSpec} {conds : List PathCond} {apart fresh handsOn again : Bool} {X : World → Array Value → Prop}
    (hX : ∀ (w w' : World) (args : Array Value), w.heap = w'.heap → X w args → X w' args)
    (own : ownKnob C.prog.godebug = none) (started : os.Started) (noInit : C.prog.inits.idxOf? f = none) (hfn : C.prog.funcs[f]? = some fn)
    (witness : ∃ (w : World) (tape : Tape) (i : Input), w.os = os ∧ (w.forCall tape i).Shaped C.prog ∧ i.vars = [] ∧ Input.okWide C.prog (w.forCall tape i) .any w.heap.size f i ∧
      ((s.pre enc C.prog fn conds apart (w.forCall tape i).memory i.args ∧ X (w.forCall tape i).memory i.args) ∧ sizedMet enc C.prog fn (OpenSpec.ofChange s) apart (w.forCall tape i).memory i.args) ∧ a.holds C.prog (lone (Frame.enter C.prog f i.args .normal) [] (w.forCall tape i)))
    (contract : ∀ (W : World) (base : Nat) (args : Array Value) (ds gs : List (DataW H)) (before : List MemPlace),
      (∀ (j : Nat) t v, fn.params[j]? = some t → args[j]? = some v → Value.okWide C.prog W .any base t v) →
      DataW.Whole enc C.prog fn.params.toList s.vars apart W args.toList ds gs before → X W args → W.ShapedOpen C.prog →
      Calls C.prog f args W fun e W' => ∃ v, e = .returned v ∧ s.post enc C.prog fn apart fresh handsOn again W args v W') :
    ReturnsInHanded a C os f .any (fun w args => (s.pre enc C.prog fn conds apart w args ∧ X w args) ∧ sizedMet enc C.prog fn (OpenSpec.ofChange s) apart w args) (s.post enc C.prog fn apart fresh handsOn again) := by
  refine returnsInHanded_of_calls own started noInit witness ?_
  intro w tape i _ hsh _ hok hpre _
  obtain ⟨_, _, _, fn', hfn', _, _, _, _, hval⟩ := hok
  have e : fn' = fn := Option.some.inj (hfn'.symm.trans hfn)
  subst e
  obtain ⟨⟨⟨ds, gs, before, hw, _⟩, hx⟩, _⟩ := hpre
  have hw' := DataW.Whole.of_heap (w' := w.forCall tape i) (by rfl) hw
  have hx' := hX _ (w.forCall tape i) i.args (by rfl) hx
  refine (contract (w.forCall tape i) w.heap.size i.args ds gs before hval hw' hx' hsh).mono fun e W' ⟨v, he, hp⟩ => ?_
  subst he
  exact ChangeSpec.post_blind hp

/-- A call with no objects, from outside. -/
theorem ADet.top {C : Ctx} {f : FuncId} {args : List AV} {b : Bool} (h : ADet C f args [] (.bool b) []) {w : World} (hl : C.laid w) (hg : C.gsz ≤ w.heap.size) {cargs : List Value} (hlen : cargs.length = args.length)
    (hV : ∀ (j : Nat) v u, cargs[j]? = some v → args[j]? = some u → V w (fun _ => False) nob v u) : Calls C.P f cargs.toArray w fun e w' => e = .returned (.bool b) ∧ Below w.heap.size w w' := by
  have no : ∀ r, lkL [] r = none := fun r => by cases r <;> rfl
  have nm : ∀ b', ¬ mutB (lkL []) nob b' := by
    rintro b' ⟨r, o, c, ho, _⟩
    rw [no r] at ho; cases ho
  have hw : WRep C ⟨w, 0, nob, fun _ => False, fun _ => False⟩ (lkL []) nob w := {
    obj := fun r o ho => by rw [no r] at ho; cases ho
    sep := fun r r' o o' b c c' ho => by rw [no r] at ho; cases ho
    out := fun b hb => absurd hb (nm b)
    frz := fun r t sz n f b c ho => by rw [no r] at ho; cases ho
    high := fun b hb => by
      rcases hb with hb | hb
      · exact hb.elim
      · exact absurd hb (nm b)
    lt := fun r b c hb => by simp [nob] at hb
    outlt := fun b hb => hb.elim
    keep := fun b _ _ => rfl
    old := fun b hb => absurd hb (nm b)
    size := Nat.le_refl _
    pre := fun r x hr => absurd hr (Nat.not_lt_zero r)
    os := rfl
    tape := .refl _ _
    output := rfl
    laid := hl
    gle := hg }
  refine (h.2 ⟨w, 0, nob, fun _ => False, fun _ => False⟩ nob w cargs rfl rfl rfl hw (fun _ _ => rfl) hlen (fun j v u hv hu => (hV j v u hv hu).step_ (fun b _ _ hb => ?_) (fun _ _ _ => rfl) (Nat.le_refl _) nob (fun _ _ h => h))).mono ?_
  · rcases hb with hb | hb
    · exact hb
    · exact nm b hb
  · rintro e w' ⟨v, u, O', bs', rfl, ⟨rfl, rfl⟩, hw', hV', _⟩
    cases hV'
    exact ⟨rfl, hw'.os, hw'.tape.tape, hw'.output, hw'.size, fun i hi => hw'.keep i hi (fun h => h)⟩

theorem V_view {W : World} {A : Option Addr} {n c sz : Nat} (g : Nat → List AV) (hn : n ≤ c) (hc : c ≤ maxLen) (hl : ∀ i, i < n → (g i).length = sz)
    (h : n = 0 ∨ ∃ ad, A = some ad ∧ ad.block < W.heap.size ∧ ∀ i, i < n → ∀ j, j < sz → ∃ v, W.cell? (ad.add (i * sz + j)) = some v ∧ v.oneCell' = true ∧ ∀ u, (g i)[j]? = some u → V W (fun _ => False) nob v u) : V W (fun _ => False) nob (.slice A n c) (.view sz n g) := by
  rcases h with rfl | ⟨ad, rfl, hb, h⟩
  · exact .view ⟨0, 0, none⟩ (fun _ _ => default) hn hc (fun h => absurd h (by omega)) hl (fun i hi => by omega) (fun i hi => by omega) (fun i hi => by omega)
  · have hj : ∀ i, i < n → ∀ j u, (g i)[j]? = some u → j < sz := fun i hi j u hu => by
      have := (List.getElem?_eq_some_iff.1 hu).1
      rw [hl i hi] at this; exact this
    refine .view ad (fun i j => (W.cell? (ad.add (i * sz + j))).getD default) hn hc (fun _ => ⟨rfl, fun h => h, hb⟩) hl (fun i hi j hj => ?_) (fun i hi j hj => ?_) (fun i hi j u hu => ?_)
    · obtain ⟨v, h1, _⟩ := h i hi j hj
      rw [h1]; rfl
    · obtain ⟨v, h1, h2, _⟩ := h i hi j hj
      rw [h1]; exact h2
    · obtain ⟨v, h1, _, h3⟩ := h i hi j (hj i hi j u hu)
      rw [h1]; exact h3 u hu

end Go.Eng
/- What the library's functions compute: plain functions. -/
namespace Go.Eng

def dropR (p : UInt8 → Bool) (s : List UInt8) : List UInt8 := (s.reverse.dropWhile p).reverse
def trimF (c s : List UInt8) : List UInt8 := (dropR (c.contains ·) s).dropWhile (c.contains ·)
def S_trim : Spec
  | [.str s, .str c], [] => some (.str (trimF c s), [], s.length ≤ maxLen ∧ 2 ≤ c.length ∧ c.length < 4294967281 ∧ ∀ b ∈ c, b.toNat < 128)
  | _, _ => none

theorem dropR_snoc (p : UInt8 → Bool) (r : List UInt8) (x : UInt8) : dropR p (r ++ [x]) = if p x then dropR p r else r ++ [x] := by
  unfold dropR
  simp only [List.reverse_append, List.reverse_cons, List.reverse_nil, List.nil_append, List.cons_append, List.dropWhile_cons]
  split <;> simp
theorem snoc_cases {α : Type} (l : List α) : l = [] ∨ ∃ r x, l = r ++ [x] := by
  rcases List.eq_nil_or_concat l with h | ⟨r, x, h⟩
  · exact .inl h
  · exact .inr ⟨r, x, by rw [h]; simp⟩

/-- A set of bytes as a variable of 256 truth values. -/
def inSet (cells : List AV) (x : UInt8) : Bool := boolOf (cells.getD x.toNat .any)
def SetOK (cells : List AV) : Prop := cells.length = 256 ∧ ∀ u ∈ cells, ∃ b, u = .bool b
theorem SetOK.at_ {cells : List AV} (h : SetOK cells) (x : UInt8) : cells[x.toNat]? = some (.bool (inSet cells x)) := by
  have hlt : x.toNat < cells.length := by rw [h.1]; exact x.toNat_lt
  obtain ⟨b, hb⟩ := h.2 cells[x.toNat] (List.getElem_mem hlt)
  have : inSet cells x = b := by simp [inSet, hlt, hb, boolOf]
  rw [this, List.getElem?_eq_getElem hlt, hb]
theorem SetOK.rn {cells : List AV} (h : SetOK cells) (ρ : Nat → Option Nat) : AV.rnL ρ cells = cells := by
  have key : ∀ l : List AV, (∀ u ∈ l, ∃ b, u = .bool b) → AV.rnL ρ l = l := by
    intro l
    induction l with
    | nil => intro _; rfl
    | cons u l ih =>
      intro hl
      obtain ⟨b, rfl⟩ := hl u (by simp)
      simp only [AV.rnL, AV.rn, ih fun u hu => hl u (List.mem_cons_of_mem _ hu)]
  exact key cells h.2

@[irreducible] def setAV (cs : List UInt8) : List AV := (List.range 256).map fun i => .bool (cs.contains (UInt8.ofNat i))
theorem setAV_ok (cs : List UInt8) : SetOK (setAV cs) := ⟨by unfold setAV; simp, fun u hu => by
  unfold setAV at hu
  obtain ⟨i, _, rfl⟩ := List.mem_map.1 hu
  exact ⟨_, rfl⟩⟩
theorem inSet_setAV (cs : List UInt8) (x : UInt8) : inSet (setAV cs) x = cs.contains x := by
  have : x.toNat < 256 := x.toNat_lt
  unfold inSet setAV; simp [List.getD, this, boolOf]

def S_setContains : Spec
  | [.ptr 0 0, .int .u8 x], [.cells cells t] => some (.bool (inSet cells (UInt8.ofNat x.toNat)), [(0, .cells cells t)], SetOK cells ∧ 0 ≤ x ∧ x < 256)
  | _, _ => none
def S_trimLeftA : Spec
  | [.str s, .ptr 0 0], [.cells cells 174] => some (.str (s.dropWhile (inSet cells)), [(0, .cells cells 174)], SetOK cells)
  | _, _ => none
def S_trimRightA : Spec
  | [.str s, .ptr 0 0], [.cells cells 174] => some (.str (dropR (inSet cells) s), [(0, .cells cells 174)], SetOK cells ∧ s.length ≤ maxLen)
  | _, _ => none
def S_tlState (cells : List AV) (t : Nat) (s : List UInt8) : St := ⟨[(0, .str s), (1, .ptr 0 0)], [(0, .cells cells t)], 1, []⟩
def L_trimLeftA (s : List UInt8) (cells : List AV) (t : Nat) : LSpec := fun st Q => canonIs te 1 [0, 1] st (S_tlState cells t s) ∧ SetOK cells ∧ Q (.exit 0) ⟨[(0, .str (s.dropWhile (inSet cells)))], [(0, .cells cells t)], 1, []⟩
def L_trimRightA (s : List UInt8) (cells : List AV) (t : Nat) : LSpec := fun st Q => canonIs te 1 [0, 1] st (S_tlState cells t s) ∧ SetOK cells ∧ s.length ≤ maxLen ∧ Q (.exit 0) ⟨[(0, .str (dropR (inSet cells) s))], [(0, .cells cells t)], 1, []⟩
def S_makeSet : Spec
  | [.str l], [] => some (.tuple [.agg (setAV l), .bool true], [], l.length < 4294967281 ∧ ∀ b ∈ l, b.toNat < 128)
  | _, _ => none
/-- The set is made and laid into a variable. -/
def L_trimSet (s cs : List UInt8) : LSpec := fun st Q => canonIs te 0 [0, 1] st ⟨[(0, .str s), (1, .str cs)], [], 0, []⟩ ∧ cs.length < 4294967281 ∧ (∀ b ∈ cs, b.toNat < 128) ∧
  Q .normal ⟨[(0, .str s), (5, .ptr 0 0), (6, .bool true)], [(0, .cells (setAV cs) 174)], 1, []⟩


end Go.Eng
/- Codes of classifications: plain functions. -/
namespace Go.Eng

def vInt (f : Nat → List AV) (i : Nat) : Int := intOf ((f i).headD .any)
def intRow (v : Nat → Int) : Nat → List AV := fun i => [.int .i64 (v i)]
def minV (v : Nat → Int) : Nat → Int
  | 0 => v 0
  | k + 1 => min (minV v k) (v (k + 1))
def maxV (v : Nat → Int) : Nat → Int
  | 0 => v 0
  | k + 1 => max (maxV v k) (v (k + 1))
def S_min : Spec
  | [.own 0 n], [.row t 1 m f fr] => some (.int .i64 (minV (vInt f) (n - 1)), [(0, .row t 1 m f fr)], t = 3 ∧ fr = false ∧ 1 ≤ n ∧ n = m ∧ n ≤ 4611686018427387904 ∧ f = intRow (vInt f))
  | _, _ => none
def S_max : Spec
  | [.own 0 n], [.row t 1 m f fr] => some (.int .i64 (maxV (vInt f) (n - 1)), [(0, .row t 1 m f fr)], t = 3 ∧ fr = false ∧ 1 ≤ n ∧ n = m ∧ n ≤ 4611686018427387904 ∧ f = intRow (vInt f))
  | _, _ => none
def S_mmState (n : Nat) (v g : Nat → Int) (k : Nat) : St := ⟨[(0, .own 0 n), (3, .int .i64 (g k)), (4, .int .i64 ((k : Int) + 1))], [(0, .row 3 1 n (fun i => [.int .i64 (v i)]) false)], 1, []⟩
def L_mm (n : Nat) (v g : Nat → Int) : LSpec := fun st Q => canonIs te 1 [0, 3, 4] st (S_mmState n v g 0) ∧ 1 ≤ n ∧ n ≤ 4611686018427387904 ∧ Q (.exit 0) ⟨[(3, .int .i64 (g (n - 1)))], [(0, .row 3 1 n (fun i => [.int .i64 (v i)]) false)], 1, []⟩

theorem rowsEq1 {r : Nat} {t : TypeId} {sz n : Nat} {f : Nat → List AV} {fr : Bool} : RowsEq [(r, .row t sz n f fr)] [(r, .row t sz n f fr)] := ⟨⟨rfl, rfl, rfl, rfl, rfl, fun _ _ => rfl⟩, trivial⟩

def decF (n : Int) : List UInt8 := Lib.decDigits n.toNat
def S_itoa : Spec
  | [.int .i64 n], [] => some (.str (decF n), [], 0 ≤ n ∧ n < 100)
  | _, _ => none
def atoiZ (l : List UInt8) : Int := match Lib.atoiAll l with
  | .ok v => v
  | .range => Lib.atoiSat l
  | _ => 0
def S_atoi : Spec
  | [.str s], [] => some (.tuple [.int .i64 (atoiZ s), .any], [], s.length ≤ 281474976710656)
  | _, _ => none
def words (s : List UInt8) : List (List UInt8) := Lib.split s [46]
def S_split : Spec
  | [.str s, .str sep], [] => some (.view 1 (words s).length (fun i => [.str ((words s).getD i [])]), [], s.length < 4294967281 ∧ sep = [46])
  | _, _ => none

def fmtRest (v : Nat → Int) : Nat → List UInt8
  | 0 => []
  | k + 1 => fmtRest v k ++ (46 :: decF (v (k + 1)))
def fmtHead (a : Int) : List UInt8 := match decide (a < 10) with
  | true => 48 :: decF a
  | false => decF a
def fmtZ (n : Nat) (v : Nat → Int) : List UInt8 := fmtHead (v 0) ++ fmtRest v (n - 1)
def fmtOK (n : Nat) (v : Nat → Int) : Bool := decide (1 ≤ n) && decide (n ≤ 5) && decide (1 ≤ minV v (n - 1)) && decide (maxV v (n - 1) ≤ 99)
def S_format : Spec
  | [.own 0 n], [.row t 1 m f fr] => some (.tuple [.str (bif fmtOK n (vInt f) then fmtZ n (vInt f) else []), .int .i64 (bif fmtOK n (vInt f) then 0 else 64)], [(0, .row t 1 m f fr)], t = 3 ∧ fr = false ∧ n = m ∧ n ≤ 4611686018427387904 ∧ f = intRow (vInt f))
  | _, _ => none
def S_fmtState (n : Nat) (v : Nat → Int) (k : Nat) : St := ⟨[(4, .str (fmtHead (v 0) ++ fmtRest v k)), (36, .sub 0 1 1 (n - 1)), (37, .int .i64 (n - 1 : Nat)), (38, .int .i64 k)], [(0, .row 3 1 n (fun i => [.int .i64 (v i)]) false)], 1, []⟩
def L_fmt (n : Nat) (v : Nat → Int) : LSpec := fun st Q => canonIs te 1 [4, 36, 37, 38] st (S_fmtState n v 0) ∧ fmtOK n v = true ∧ Q (.exit 0) ⟨[(4, .str (fmtZ n v))], [(0, .row 3 1 n (fun i => [.int .i64 (v i)]) false)], 1, []⟩

theorem minV_le (v : Nat → Int) : ∀ k i, i ≤ k → minV v k ≤ v i
  | 0, i, h => by have : i = 0 := by omega
                  subst this; exact Int.le_refl _
  | k + 1, i, h => by
    simp only [minV]
    rcases Nat.lt_or_ge i (k + 1) with hi | hi
    · have := minV_le v k i (by omega); omega
    · have : i = k + 1 := by omega
      subst this; omega
theorem le_maxV (v : Nat → Int) : ∀ k i, i ≤ k → v i ≤ maxV v k
  | 0, i, h => by have : i = 0 := by omega
                  subst this; exact Int.le_refl _
  | k + 1, i, h => by
    simp only [maxV]
    rcases Nat.lt_or_ge i (k + 1) with hi | hi
    · have := le_maxV v k i (by omega); omega
    · have : i = k + 1 := by omega
      subst this; omega
theorem fmtOK_n {n : Nat} {v : Nat → Int} (h : fmtOK n v = true) : 1 ≤ n ∧ n ≤ 5 := by
  unfold fmtOK at h
  simp only [Bool.and_eq_true, decide_eq_true_eq] at h
  omega
theorem fmtOK_at {n : Nat} {v : Nat → Int} (h : fmtOK n v = true) (i : Nat) (hi : i < n) : 1 ≤ v i ∧ v i ≤ 99 := by
  unfold fmtOK at h
  simp only [Bool.and_eq_true, decide_eq_true_eq] at h
  have h1 := minV_le v (n - 1) i (by omega)
  have h2 := le_maxV v (n - 1) i (by omega)
  omega
theorem decF_lo {n : Int} (h0 : 0 ≤ n) (h1 : n < 10) : decF n = [UInt8.ofNat (48 + n.toNat)] := by
  unfold decF Lib.decDigits
  rw [dif_pos (by omega)]
theorem decF_hi {n : Int} (h0 : 10 ≤ n) (h1 : n < 100) : decF n = [UInt8.ofNat (48 + n.toNat / 10), UInt8.ofNat (48 + n.toNat % 10)] := by
  unfold decF
  rw [Lib.decDigits, dif_neg (by omega), Lib.decDigits, dif_pos (by omega)]
  rfl
theorem decF_len {n : Int} (h : 1 ≤ n ∧ n ≤ 99) : (decF n).length ≤ 2 := by
  rcases Int.lt_or_le n 10 with h1 | h1
  · rw [decF_lo (by omega) h1]; simp
  · rw [decF_hi h1 (by omega)]; simp
theorem fmtHead_len {n : Int} (h : 1 ≤ n ∧ n ≤ 99) : (fmtHead n).length ≤ 3 := by
  have := decF_len h
  unfold fmtHead
  split
  · simp; omega
  · omega
theorem fmtRest_len {n : Nat} {v : Nat → Int} (h : ∀ i, i < n → 1 ≤ v i ∧ v i ≤ 99) : ∀ k, k < n → (fmtRest v k).length ≤ 3 * k
  | 0, _ => by simp [fmtRest]
  | k + 1, hk => by
    have ih := fmtRest_len h k (by omega)
    have hd := decF_len (h (k + 1) hk)
    simp only [fmtRest, List.length_append, List.length_cons]
    omega

theorem words_miss {s : List UInt8} (h : Lib.index s [46] = -1) : words s = [s] := by
  unfold words Lib.split
  rw [Lib.count_miss h]; rfl
theorem words_hit {s : List UInt8} {i : Nat} (h : Lib.index s [46] = i) : words s = s.take i :: words (s.drop (i + 1)) := by
  have hc := Lib.count_hit (sub := [46]) (by simp) h
  unfold words Lib.split
  rw [hc, Nat.add_comm 1]
  have hne : (Lib.index s [46] == -1) = false := by rw [h]; simp
  show (if Lib.index s [46] == -1 then [s] else _) = _
  rw [hne, h]
  simp
theorem index_cases (s : List UInt8) : Lib.index s [46] = -1 ∨ ∃ i : Nat, Lib.index s [46] = i := by
  have := Lib.index_ge s [46]
  rcases Int.lt_or_le (Lib.index s [46]) 0 with h | h
  · exact .inl (by omega)
  · exact .inr ⟨(Lib.index s [46]).toNat, by omega⟩
theorem words_len (s : List UInt8) : (words s).length = Lib.count s [46] + 1 := by
  have key : ∀ n, ∀ s : List UInt8, s.length ≤ n → (words s).length = Lib.count s [46] + 1 := by
    intro n
    induction n with
    | zero =>
      intro s hs
      have : s = [] := List.length_eq_zero_iff.1 (by omega)
      subst this
      rw [words_miss rfl, Lib.count_miss rfl]; rfl
    | succ n ih =>
      intro s hs
      rcases index_cases s with h | ⟨i, h⟩
      · rw [words_miss h, Lib.count_miss h]; rfl
      · rw [words_hit h, Lib.count_hit (sub := [46]) (by simp) h]
        have hr := Lib.index_room s [46] (by omega)
        simp only [List.length_cons, List.length_nil, Nat.zero_add] at hr ⊢
        rw [ih _ (by simp; omega)]
        omega
  exact key _ s (Nat.le_refl _)

theorem words_le (s : List UInt8) : ∀ w ∈ words s, w.length ≤ s.length := by
  have key : ∀ n, ∀ s : List UInt8, s.length ≤ n → ∀ w ∈ words s, w.length ≤ s.length := by
    intro n
    induction n with
    | zero =>
      intro s hs w hw
      have : s = [] := List.length_eq_zero_iff.1 (by omega)
      subst this
      rw [words_miss rfl] at hw
      simp at hw
      subst hw; simp
    | succ n ih =>
      intro s hs w hw
      rcases index_cases s with h | ⟨i, h⟩
      · rw [words_miss h] at hw
        simp at hw
        subst hw; exact Nat.le_refl _
      · rw [words_hit h] at hw
        have hr := Lib.index_room s [46] (by omega)
        simp only [List.length_cons, List.length_nil, Nat.zero_add] at hr
        rcases List.mem_cons.1 hw with rfl | hw
        · simp; omega
        · have := ih (s.drop (i + 1)) (by simp; omega) w hw
          simp at this; omega
  exact key _ s (Nat.le_refl _)

/-- What the program's variables hold when a call begins. -/
structure LaidW (w : World) : Prop where
  maxLen : ∃ m, w.cell? ⟨0, 0, none⟩ = some (.int .i64 m)
  errS : ∃ t p, w.cell? ⟨3, 0, none⟩ = some (.iface t p)
  errR : ∃ t p, w.cell? ⟨4, 0, none⟩ = some (.iface t p)

def wordV (s : List UInt8) (i : Nat) : Int := atoiZ ((words s).getD i [])
def parseOK (s : List UInt8) : Bool := fmtOK (words s).length (wordV s) && decide (fmtZ (words s).length (wordV s) = s)
def S_paState (s : List UInt8) (k : Nat) : St := ⟨[(0, .str s), (4, .own 0 k), (12, .view 1 (words s).length (fun i => [.str ((words s).getD i [])])), (13, .int .i64 ((words s).length : Nat)), (14, .int .i64 k)], [(0, .row 3 1 k (fun i => [.int .i64 (wordV s i)]) false)], 1, []⟩
def L_parse (s : List UInt8) : LSpec := fun st Q => canonIs te 0 [0, 4, 12, 13, 14] (ownNil 4 3 1 st) (S_paState s 0) ∧ s.length < 4294967281 ∧ Q (.exit 0) ⟨[(0, .str s), (4, .own 0 (words s).length)], [(0, .row 3 1 (words s).length (fun i => [.int .i64 (wordV s i)]) false)], 1, []⟩
def R_parse : RSpec
  | [.str s], [], R => s.length < 4294967281 ∧ condP (parseOK s) (R (.tuple [.own 0 (words s).length, .int .i64 0]) [(0, .row 3 1 (words s).length (fun i => [.int .i64 (wordV s i)]) false)]) (R (.tuple [.nil, .int .i64 60]) [])
  | _, _, _ => False


end Go.Eng
/- The reference of the codes: plain functions. -/
namespace Go.Eng

structure PIx where
  k : Nat
  a : Nat
  v : Nat → Int
end Go.Eng
/- The reference of the codes: what it takes is what the parse takes. Plain. -/
namespace Go.Eng

end Go.Eng
namespace Go.Proofs
open Go.Shelf
def Tryz.lays119_ren : Go.Shelf.Ren := ⟨fun | 119 => 175 | n => n, fun | 21 => 21 | 4 => 4 | n => n, fun | n => n⟩
theorem Tryz.lays119 : Go.Proofs.Lays.n119 Tryz.prog Tryz.lays119_ren := {
  mixed := by kernel_rfl
  f119 := Tryz.func175.trans (congrArg some (by kernel_rfl))
  t4 := Tryz.underlying4
  a4 := Tryz.isAgg4
  z4 := Tryz.sizeOf4
  v4 := Tryz.zeroValue4
  t21 := Tryz.underlying21
  a21 := Tryz.isAgg21
  z21 := Tryz.sizeOf21
  v21 := Tryz.zeroValue21 }
theorem Tryz.utf8_ValidRune (r : Int) (w : World) :
    Calls Tryz.prog 175 #[.int .i32 r] w fun e w' => e = .returned (.bool (Lib.validRune r)) ∧ w' = w := Any.utf8_ValidRune Tryz.lays119 r w
def Tryz.lays106_ren : Go.Shelf.Ren := ⟨fun | 106 => 55 | 213 => 89 | 265 => 120 | n => n, fun | 9 => 9 | 3 => 3 | n => n, fun | n => n⟩
theorem Tryz.lays106 : Go.Proofs.Lays.n106 Tryz.prog Tryz.lays106_ren := {
  mixed := by kernel_rfl
  f106 := Tryz.func55.trans (congrArg some (by kernel_rfl))
  f213 := Tryz.func89.trans (congrArg some (by kernel_rfl))
  f265 := Tryz.func120.trans (congrArg some (by kernel_rfl))
  t3 := Tryz.underlying3
  a3 := Tryz.isAgg3
  z3 := Tryz.sizeOf3
  v3 := Tryz.zeroValue3
  t9 := Tryz.underlying9
  a9 := Tryz.isAgg9
  z9 := Tryz.sizeOf9
  v9 := Tryz.zeroValue9 }
open Go.RowKit in
theorem Tryz.strings_Compare (a b : ByteArray) (w : World) :
    Calls Tryz.prog 55 #[.string a, .string b] w fun e w' => e = .returned (.int .i64 (Lib.compareBytes a.data.toList b.data.toList)) ∧ w' = w := Any.strings_Compare Tryz.lays106 a b w
def Tryz.lays137_ren : Go.Shelf.Ren := ⟨fun | 137 => 174 | 217 => 189 | 266 => 197 | n => n, fun | 9 => 9 | 5 => 5 | 3 => 3 | n => n, fun | n => n⟩
theorem Tryz.lays137 : Go.Proofs.Lays.n137 Tryz.prog Tryz.lays137_ren := {
  mixed := by kernel_rfl
  f137 := Tryz.func174.trans (congrArg some (by kernel_rfl))
  f217 := Tryz.func189.trans (congrArg some (by kernel_rfl))
  f266 := Tryz.func197.trans (congrArg some (by kernel_rfl))
  t3 := Tryz.underlying3
  a3 := Tryz.isAgg3
  z3 := Tryz.sizeOf3
  v3 := Tryz.zeroValue3
  t5 := Tryz.underlying5
  a5 := Tryz.isAgg5
  z5 := Tryz.sizeOf5
  v5 := Tryz.zeroValue5
  t9 := Tryz.underlying9
  a9 := Tryz.isAgg9
  z9 := Tryz.sizeOf9
  v9 := Tryz.zeroValue9 }
open Go.RowKit in
theorem Tryz.strings_IndexByte (s : ByteArray) (c : Int) (w : World) :
    Calls Tryz.prog 174 #[.string s, .int .u8 c] w fun e w' => e = .returned (.int .i64 (Lib.indexByte s.data.toList c.toNat.toUInt8)) ∧ w' = w := Any.strings_IndexByte Tryz.lays137 s c w
def Tryz.lays171_ren : Go.Shelf.Ren := ⟨fun | 171 => 172 | 243 => 188 | 246 => 196 | 283 => 201 | 284 => 202 | 285 => 203 | 286 => 204 | 129 => 119 | 317 => 206 | 318 => 207 | 319 => 208 | 320 => 209 | 337 => 210 | 338 => 211 | n => n, fun | 3 => 3 | 9 => 9 | 2 => 2 | 4 => 4 | 171 => 220 | 0 => 0 | 53 => 91 | 37 => 114 | 5 => 5 | 173 => 222 | 212 => 227 | 51 => 143 | 20 => 20 | 213 => 228 | 46 => 120 | 232 => 229 | 233 => 230 | n => n, fun | 17 => 5 | 18 => 6 | 19 => 7 | n => n⟩
theorem Tryz.lays171 : Go.Proofs.Lays.n171 Tryz.prog Tryz.lays171_ren := {
  mixed := by kernel_rfl
  f129 := Tryz.func119.trans (congrArg some (by kernel_rfl))
  f171 := Tryz.func172.trans (congrArg some (by kernel_rfl))
  f243 := Tryz.func188.trans (congrArg some (by kernel_rfl))
  f246 := Tryz.func196.trans (congrArg some (by kernel_rfl))
  f283 := Tryz.func201.trans (congrArg some (by kernel_rfl))
  f284 := Tryz.func202.trans (congrArg some (by kernel_rfl))
  f285 := Tryz.func203.trans (congrArg some (by kernel_rfl))
  f286 := Tryz.func204.trans (congrArg some (by kernel_rfl))
  f317 := Tryz.func206.trans (congrArg some (by kernel_rfl))
  f318 := Tryz.func207.trans (congrArg some (by kernel_rfl))
  f319 := Tryz.func208.trans (congrArg some (by kernel_rfl))
  f320 := Tryz.func209.trans (congrArg some (by kernel_rfl))
  f337 := Tryz.func210.trans (congrArg some (by kernel_rfl))
  f338 := Tryz.func211.trans (congrArg some (by kernel_rfl))
  t0 := Tryz.underlying0
  a0 := Tryz.isAgg0
  z0 := Tryz.sizeOf0
  v0 := Tryz.zeroValue0
  t2 := Tryz.underlying2
  a2 := Tryz.isAgg2
  z2 := Tryz.sizeOf2
  v2 := Tryz.zeroValue2
  t3 := Tryz.underlying3
  a3 := Tryz.isAgg3
  z3 := Tryz.sizeOf3
  v3 := Tryz.zeroValue3
  t4 := Tryz.underlying4
  a4 := Tryz.isAgg4
  z4 := Tryz.sizeOf4
  v4 := Tryz.zeroValue4
  t5 := Tryz.underlying5
  a5 := Tryz.isAgg5
  z5 := Tryz.sizeOf5
  v5 := Tryz.zeroValue5
  t9 := Tryz.underlying9
  a9 := Tryz.isAgg9
  z9 := Tryz.sizeOf9
  v9 := Tryz.zeroValue9
  t20 := Tryz.underlying20
  a20 := Tryz.isAgg20
  z20 := Tryz.sizeOf20
  v20 := Tryz.zeroValue20
  t37 := Tryz.underlying114
  a37 := Tryz.isAgg114
  z37 := Tryz.sizeOf114
  v37 := Tryz.zeroValue114
  t46 := Tryz.underlying120
  a46 := Tryz.isAgg120
  z46 := Tryz.sizeOf120
  v46 := Tryz.zeroValue120
  t51 := Tryz.underlying143
  a51 := Tryz.isAgg143
  z51 := Tryz.sizeOf143
  v51 := Tryz.zeroValue143
  t53 := Tryz.underlying91
  a53 := Tryz.isAgg91
  z53 := Tryz.sizeOf91
  v53 := Tryz.zeroValue91
  t171 := Tryz.underlying220
  a171 := Tryz.isAgg220
  z171 := Tryz.sizeOf220
  v171 := Tryz.zeroValue220
  t173 := Tryz.underlying222
  a173 := Tryz.isAgg222
  z173 := Tryz.sizeOf222
  v173 := Tryz.zeroValue222
  t212 := Tryz.underlying227
  a212 := Tryz.isAgg227
  z212 := Tryz.sizeOf227
  v212 := Tryz.zeroValue227
  t213 := Tryz.underlying228
  a213 := Tryz.isAgg228
  z213 := Tryz.sizeOf228
  t232 := Tryz.underlying229
  a232 := Tryz.isAgg229
  z232 := Tryz.sizeOf229
  v232 := Tryz.zeroValue229
  t233 := Tryz.underlying230
  a233 := Tryz.isAgg230
  z233 := Tryz.sizeOf230
  v233 := Tryz.zeroValue230
  g17 := by kernel_rfl
  g18 := by kernel_rfl
  g19 := by kernel_rfl }
open Go.RowKit Go.Sort Go.Lib in
theorem Tryz.strconv_Itoa_small (i : Nat) (hi : i < 100) (w : World) :
    Calls Tryz.prog 172 #[.int .i64 i] w fun e w' => e = .returned (.string ⟨(Lib.decDigits i).toArray⟩) ∧ w' = w := Any.strconv_Itoa_small Tryz.lays171 i hi w
def Tryz.laysC172_ren : Go.Shelf.Ren := ⟨fun | 172 => 159 | 244 => 168 | 245 => 169 | 247 => 183 | 279 => 184 | 280 => 185 | 281 => 186 | 282 => 187 | 287 => 193 | 316 => 194 | 171 => 172 | 205 => 195 | 321 => 199 | 322 => 200 | 243 => 188 | 246 => 196 | 283 => 201 | 284 => 202 | 285 => 203 | 286 => 204 | 129 => 119 | 317 => 206 | 318 => 207 | 319 => 208 | 320 => 209 | 337 => 210 | 338 => 211 | n => n, fun | 9 => 9 | 3 => 3 | 75 => 181 | 76 => 182 | 4 => 4 | 5 => 5 | 167 => 198 | 37 => 114 | 0 => 0 | 85 => 199 | 2 => 2 | 168 => 201 | 53 => 91 | 175 => 208 | 46 => 120 | 210 => 212 | 127 => 216 | 145 => 219 | 143 => 217 | 21 => 21 | 171 => 220 | 173 => 222 | 212 => 227 | 51 => 143 | 20 => 20 | 213 => 228 | 232 => 229 | 233 => 230 | 80 => 71 | n => n, fun | 15 => 3 | 16 => 4 | 17 => 5 | 18 => 6 | 19 => 7 | n => n⟩
theorem Tryz.laysC172 : Go.Proofs.LaysC.n172 Tryz.prog Tryz.laysC172_ren := {
  mixed := by kernel_rfl
  f129 := Tryz.func119.trans (congrArg some (by kernel_rfl))
  f171 := Tryz.func172.trans (congrArg some (by kernel_rfl))
  f172 := Tryz.func159.trans (congrArg some (by kernel_rfl))
  f205 := Tryz.func195.trans (congrArg some (by kernel_rfl))
  f243 := Tryz.func188.trans (congrArg some (by kernel_rfl))
  f244 := Tryz.func168.trans (congrArg some (by kernel_rfl))
  f245 := Tryz.func169.trans (congrArg some (by kernel_rfl))
  f246 := Tryz.func196.trans (congrArg some (by kernel_rfl))
  f247 := Tryz.func183.trans (congrArg some (by kernel_rfl))
  f279 := Tryz.func184.trans (congrArg some (by kernel_rfl))
  f280 := Tryz.func185.trans (congrArg some (by kernel_rfl))
  f281 := Tryz.func186.trans (congrArg some (by kernel_rfl))
  f282 := Tryz.func187.trans (congrArg some (by kernel_rfl))
  f283 := Tryz.func201.trans (congrArg some (by kernel_rfl))
  f284 := Tryz.func202.trans (congrArg some (by kernel_rfl))
  f285 := Tryz.func203.trans (congrArg some (by kernel_rfl))
  f286 := Tryz.func204.trans (congrArg some (by kernel_rfl))
  f287 := Tryz.func193.trans (congrArg some (by kernel_rfl))
  f316 := Tryz.func194.trans (congrArg some (by kernel_rfl))
  f317 := Tryz.func206.trans (congrArg some (by kernel_rfl))
  f318 := Tryz.func207.trans (congrArg some (by kernel_rfl))
  f319 := Tryz.func208.trans (congrArg some (by kernel_rfl))
  f320 := Tryz.func209.trans (congrArg some (by kernel_rfl))
  f321 := Tryz.func199.trans (congrArg some (by kernel_rfl))
  f322 := Tryz.func200.trans (congrArg some (by kernel_rfl))
  f337 := Tryz.func210.trans (congrArg some (by kernel_rfl))
  f338 := Tryz.func211.trans (congrArg some (by kernel_rfl))
  t0 := Tryz.underlying0
  a0 := Tryz.isAgg0
  z0 := Tryz.sizeOf0
  v0 := Tryz.zeroValue0
  t2 := Tryz.underlying2
  a2 := Tryz.isAgg2
  z2 := Tryz.sizeOf2
  v2 := Tryz.zeroValue2
  t3 := Tryz.underlying3
  a3 := Tryz.isAgg3
  z3 := Tryz.sizeOf3
  v3 := Tryz.zeroValue3
  t4 := Tryz.underlying4
  a4 := Tryz.isAgg4
  z4 := Tryz.sizeOf4
  v4 := Tryz.zeroValue4
  t5 := Tryz.underlying5
  a5 := Tryz.isAgg5
  z5 := Tryz.sizeOf5
  v5 := Tryz.zeroValue5
  t9 := Tryz.underlying9
  a9 := Tryz.isAgg9
  z9 := Tryz.sizeOf9
  v9 := Tryz.zeroValue9
  t20 := Tryz.underlying20
  a20 := Tryz.isAgg20
  z20 := Tryz.sizeOf20
  v20 := Tryz.zeroValue20
  t21 := Tryz.underlying21
  a21 := Tryz.isAgg21
  z21 := Tryz.sizeOf21
  v21 := Tryz.zeroValue21
  t37 := Tryz.underlying114
  a37 := Tryz.isAgg114
  z37 := Tryz.sizeOf114
  v37 := Tryz.zeroValue114
  t46 := Tryz.underlying120
  a46 := Tryz.isAgg120
  z46 := Tryz.sizeOf120
  v46 := Tryz.zeroValue120
  t51 := Tryz.underlying143
  a51 := Tryz.isAgg143
  z51 := Tryz.sizeOf143
  v51 := Tryz.zeroValue143
  t53 := Tryz.underlying91
  a53 := Tryz.isAgg91
  z53 := Tryz.sizeOf91
  v53 := Tryz.zeroValue91
  t75 := Tryz.underlying181
  a75 := Tryz.isAgg181
  z75 := Tryz.sizeOf181
  v75 := Tryz.zeroValue181
  t76 := Tryz.underlying182
  a76 := Tryz.isAgg182
  z76 := Tryz.sizeOf182
  v76 := Tryz.zeroValue182
  t85 := Tryz.underlying199
  a85 := Tryz.isAgg199
  z85 := Tryz.sizeOf199
  v85 := Tryz.zeroValue199
  t127 := Tryz.underlying216
  a127 := Tryz.isAgg216
  z127 := Tryz.sizeOf216
  v127 := Tryz.zeroValue216
  t143 := Tryz.underlying217
  a143 := Tryz.isAgg217
  z143 := Tryz.sizeOf217
  v143 := Tryz.zeroValue217
  t145 := Tryz.underlying219
  a145 := Tryz.isAgg219
  z145 := Tryz.sizeOf219
  v145 := Tryz.zeroValue219
  t167 := Tryz.underlying198
  a167 := Tryz.isAgg198
  z167 := Tryz.sizeOf198
  v167 := Tryz.zeroValue198
  t168 := Tryz.underlying201
  a168 := Tryz.isAgg201
  z168 := Tryz.sizeOf201
  v168 := Tryz.zeroValue201
  t171 := Tryz.underlying220
  a171 := Tryz.isAgg220
  z171 := Tryz.sizeOf220
  v171 := Tryz.zeroValue220
  t173 := Tryz.underlying222
  a173 := Tryz.isAgg222
  z173 := Tryz.sizeOf222
  v173 := Tryz.zeroValue222
  t175 := Tryz.underlying208
  a175 := Tryz.isAgg208
  z175 := Tryz.sizeOf208
  v175 := Tryz.zeroValue208
  t210 := Tryz.underlying212
  a210 := Tryz.isAgg212
  z210 := Tryz.sizeOf212
  v210 := Tryz.zeroValue212
  t212 := Tryz.underlying227
  a212 := Tryz.isAgg227
  z212 := Tryz.sizeOf227
  v212 := Tryz.zeroValue227
  t213 := Tryz.underlying228
  a213 := Tryz.isAgg228
  z213 := Tryz.sizeOf228
  t232 := Tryz.underlying229
  a232 := Tryz.isAgg229
  z232 := Tryz.sizeOf229
  v232 := Tryz.zeroValue229
  t233 := Tryz.underlying230
  a233 := Tryz.isAgg230
  z233 := Tryz.sizeOf230
  v233 := Tryz.zeroValue230
  g15 := by kernel_rfl
  g16 := by kernel_rfl
  g17 := by kernel_rfl
  g18 := by kernel_rfl
  g19 := by kernel_rfl
  t80 := Tryz.underlying71
  a80 := Tryz.isAgg71
  z80 := Tryz.sizeOf71
  v80 := Tryz.zeroValue71
  i0 := by kernel_rfl
  i2 := by kernel_rfl
  i3 := by kernel_rfl
  i4 := by kernel_rfl
  i5 := by kernel_rfl
  i9 := by kernel_rfl
  i20 := by kernel_rfl
  i21 := by kernel_rfl
  i37 := by kernel_rfl
  i46 := by kernel_rfl
  i51 := by kernel_rfl
  i53 := by kernel_rfl
  i75 := by kernel_rfl
  i76 := by kernel_rfl
  i80 := by kernel_rfl
  i85 := by kernel_rfl
  i127 := by kernel_rfl
  i143 := by kernel_rfl
  i145 := by kernel_rfl
  i167 := by kernel_rfl
  i168 := by kernel_rfl
  i171 := by kernel_rfl
  i173 := by kernel_rfl
  i175 := by kernel_rfl
  i210 := by kernel_rfl
  i212 := by kernel_rfl
  i232 := by kernel_rfl
  i233 := by kernel_rfl
  m15 := by kernel_rfl
  m16 := by kernel_rfl
  m17 := by kernel_rfl
  m18 := by kernel_rfl
  m19 := by kernel_rfl
  c0 := by kernel_rfl
  c2 := by kernel_rfl
  c3 := by kernel_rfl
  c4 := by kernel_rfl
  c5 := by kernel_rfl
  c9 := by kernel_rfl
  c20 := by kernel_rfl
  c21 := by kernel_rfl
  c37 := by kernel_rfl
  c46 := by kernel_rfl
  c51 := by kernel_rfl
  c53 := by kernel_rfl
  c75 := by kernel_rfl
  c76 := by kernel_rfl
  c80 := by kernel_rfl
  c85 := by kernel_rfl
  c127 := by kernel_rfl
  c143 := by kernel_rfl
  c145 := by kernel_rfl
  c167 := by kernel_rfl
  c168 := by kernel_rfl
  c171 := by kernel_rfl
  c173 := by kernel_rfl
  c175 := by kernel_rfl
  c210 := by kernel_rfl
  c212 := by kernel_rfl
  c213 := by kernel_rfl
  c232 := by kernel_rfl
  c233 := by kernel_rfl }
open Go.RowKit in
theorem Tryz.strconv_Atoi_ok (s : ByteArray) (hmax : s.size ≤ 9223372036854775806) (v : Int) (h : Lib.atoiAll s.data.toList = .ok v) (w : World) :
    Calls Tryz.prog 159 #[.string s] w fun e w' => e = .returned (.tuple #[.int .i64 v, .nilIface]) ∧ (w' = w ∨ ∃ t, w' = Lib.bytesWorld w 5 t) := Any.strconv_Atoi_ok Tryz.laysC172 s hmax v h w
def Tryz.lays146_ren : Go.Shelf.Ren := ⟨fun | 146 => 158 | 221 => 167 | 268 => 180 | 138 => 181 | 143 => 182 | 195 => 190 | 197 => 165 | 218 => 191 | 219 => 192 | 260 => 178 | 217 => 189 | 225 => 177 | 224 => 176 | 267 => 198 | 266 => 197 | 314 => 205 | n => n, fun | 9 => 9 | 31 => 80 | 3 => 3 | 4 => 4 | 0 => 0 | 105 => 190 | 21 => 21 | 5 => 5 | 46 => 120 | 119 => 204 | 139 => 207 | 138 => 206 | 146 => 224 | 51 => 143 | n => n, fun | 1 => 0 | 3 => 1 | 4 => 2 | n => n⟩
theorem Tryz.lays146 : Go.Proofs.Lays.n146 Tryz.prog Tryz.lays146_ren := {
  mixed := by kernel_rfl
  f138 := Tryz.func181.trans (congrArg some (by kernel_rfl))
  f143 := Tryz.func182.trans (congrArg some (by kernel_rfl))
  f146 := Tryz.func158.trans (congrArg some (by kernel_rfl))
  f195 := Tryz.func190.trans (congrArg some (by kernel_rfl))
  f197 := Tryz.func165.trans (congrArg some (by kernel_rfl))
  f217 := Tryz.func189.trans (congrArg some (by kernel_rfl))
  f218 := Tryz.func191.trans (congrArg some (by kernel_rfl))
  f219 := Tryz.func192.trans (congrArg some (by kernel_rfl))
  f221 := Tryz.func167.trans (congrArg some (by kernel_rfl))
  f224 := Tryz.func176.trans (congrArg some (by kernel_rfl))
  f225 := Tryz.func177.trans (congrArg some (by kernel_rfl))
  f260 := Tryz.func178.trans (congrArg some (by kernel_rfl))
  f266 := Tryz.func197.trans (congrArg some (by kernel_rfl))
  f267 := Tryz.func198.trans (congrArg some (by kernel_rfl))
  f268 := Tryz.func180.trans (congrArg some (by kernel_rfl))
  f314 := Tryz.func205.trans (congrArg some (by kernel_rfl))
  t0 := Tryz.underlying0
  a0 := Tryz.isAgg0
  z0 := Tryz.sizeOf0
  v0 := Tryz.zeroValue0
  t3 := Tryz.underlying3
  a3 := Tryz.isAgg3
  z3 := Tryz.sizeOf3
  v3 := Tryz.zeroValue3
  t4 := Tryz.underlying4
  a4 := Tryz.isAgg4
  z4 := Tryz.sizeOf4
  v4 := Tryz.zeroValue4
  t5 := Tryz.underlying5
  a5 := Tryz.isAgg5
  z5 := Tryz.sizeOf5
  v5 := Tryz.zeroValue5
  t9 := Tryz.underlying9
  a9 := Tryz.isAgg9
  z9 := Tryz.sizeOf9
  v9 := Tryz.zeroValue9
  t21 := Tryz.underlying21
  a21 := Tryz.isAgg21
  z21 := Tryz.sizeOf21
  v21 := Tryz.zeroValue21
  t31 := Tryz.underlying80
  a31 := Tryz.isAgg80
  z31 := Tryz.sizeOf80
  v31 := Tryz.zeroValue80
  t46 := Tryz.underlying120
  a46 := Tryz.isAgg120
  z46 := Tryz.sizeOf120
  v46 := Tryz.zeroValue120
  t51 := Tryz.underlying143
  a51 := Tryz.isAgg143
  z51 := Tryz.sizeOf143
  v51 := Tryz.zeroValue143
  t105 := Tryz.underlying190
  a105 := Tryz.isAgg190
  z105 := Tryz.sizeOf190
  v105 := Tryz.zeroValue190
  t119 := Tryz.underlying204
  a119 := Tryz.isAgg204
  z119 := Tryz.sizeOf204
  t138 := Tryz.underlying206
  a138 := Tryz.isAgg206
  z138 := Tryz.sizeOf206
  v138 := Tryz.zeroValue206
  t139 := Tryz.underlying207
  a139 := Tryz.isAgg207
  z139 := Tryz.sizeOf207
  v139 := Tryz.zeroValue207
  t146 := Tryz.underlying224
  a146 := Tryz.isAgg224
  z146 := Tryz.sizeOf224
  v146 := Tryz.zeroValue224
  g1 := by kernel_rfl
  g3 := by kernel_rfl
  g4 := by kernel_rfl }
open Go.RowKit Go.Lib in
theorem Tryz.strings_Split (s sep : ByteArray) (m : Int) (w : World) (hs : s.size < 4294967281) (hm : w.cell? ⟨0, 0, none⟩ = some (.int .i64 m)) (h1 : 1 ≤ sep.size) :
    Calls Tryz.prog 158 #[.string s, .string sep] w fun e w' =>
      e = .returned (.slice (some ⟨w.heap.size, 0, none⟩) (Lib.countB s sep + 1) (Lib.countB s sep + 1)) ∧ w' = w.alloc (.cells ((Lib.splitB sep 0 (Lib.countB s sep) s).map Value.string).toArray 9) := Any.strings_Split Tryz.lays146 (by kernel_rfl) s sep m w hs hm h1
open Go.RowKit Go.Lib in
def Tryz.lays227_ren : Go.Shelf.Ren := ⟨fun | 227 => 153 | n => n, fun | 9 => 9 | 116 => 174 | 4 => 4 | 0 => 0 | 3 => 3 | 5 => 5 | n => n, fun | n => n⟩
theorem Tryz.lays227 : Go.Proofs.Lays.n227 Tryz.prog Tryz.lays227_ren := {
  mixed := by kernel_rfl
  f227 := Tryz.func153.trans (congrArg some (by kernel_rfl))
  t0 := Tryz.underlying0
  a0 := Tryz.isAgg0
  z0 := Tryz.sizeOf0
  v0 := Tryz.zeroValue0
  t3 := Tryz.underlying3
  a3 := Tryz.isAgg3
  z3 := Tryz.sizeOf3
  v3 := Tryz.zeroValue3
  t4 := Tryz.underlying4
  a4 := Tryz.isAgg4
  z4 := Tryz.sizeOf4
  v4 := Tryz.zeroValue4
  t5 := Tryz.underlying5
  a5 := Tryz.isAgg5
  z5 := Tryz.sizeOf5
  v5 := Tryz.zeroValue5
  t9 := Tryz.underlying9
  a9 := Tryz.isAgg9
  z9 := Tryz.sizeOf9
  v9 := Tryz.zeroValue9
  t116 := Tryz.underlying174
  a116 := Tryz.isAgg174
  z116 := Tryz.sizeOf174 }
open Go.RowKit Go.Lib in
theorem Tryz.strings_makeASCIISet (hv116 : ∀ w, (zeroValue 174).run Tryz.prog w = .ok (.agg (Array.replicate 256 (.bool false))) w) (chars : ByteArray) (w : World) (hs : chars.size < 4294967281) (hascii : ∀ (j : Nat) b, chars.data.toList[j]? = some b → b.toNat < 128) :
    Calls Tryz.prog 153 #[.string chars] w fun e w' => e = .returned (.tuple #[.agg (Lib.setCells chars.data.toList), .bool true]) ∧ w' = w.alloc (.cells (Lib.setCells chars.data.toList) 174) := Any.strings_makeASCIISet Tryz.lays227 hv116 (by kernel_rfl) chars w hs hascii
def Tryz.lays228_ren : Go.Shelf.Ren := ⟨fun | 228 => 164 | n => n, fun | 124 => 178 | 5 => 5 | 4 => 4 | 0 => 0 | 116 => 174 | n => n, fun | n => n⟩
theorem Tryz.lays228 : Go.Proofs.Lays.n228 Tryz.prog Tryz.lays228_ren := {
  mixed := by kernel_rfl
  f228 := Tryz.func164.trans (congrArg some (by kernel_rfl))
  t0 := Tryz.underlying0
  a0 := Tryz.isAgg0
  z0 := Tryz.sizeOf0
  v0 := Tryz.zeroValue0
  t4 := Tryz.underlying4
  a4 := Tryz.isAgg4
  z4 := Tryz.sizeOf4
  v4 := Tryz.zeroValue4
  t5 := Tryz.underlying5
  a5 := Tryz.isAgg5
  z5 := Tryz.sizeOf5
  v5 := Tryz.zeroValue5
  t116 := Tryz.underlying174
  a116 := Tryz.isAgg174
  z116 := Tryz.sizeOf174
  t124 := Tryz.underlying178
  a124 := Tryz.isAgg178
  z124 := Tryz.sizeOf178
  v124 := Tryz.zeroValue178 }
open Go.RowKit Go.Lib in
theorem Tryz.asciiSet_contains (b : Nat) (x : UInt8) (v : Bool) (w : World) (hc : w.cell? ⟨b, x.toNat, none⟩ = some (.bool v)) :
    Calls Tryz.prog 164 #[.pointer (some ⟨b, 0, none⟩), .int .u8 x.toNat] w fun e w' => e = .returned (.bool v) ∧ w' = w := Any.asciiSet_contains Tryz.lays228 b x v w hc
end Go.Proofs
/- Runes: plain functions. -/
namespace Go.Eng

def ascii (s : List UInt8) : Bool := s.all fun b => decide (b.toNat < 128)
theorem ascii_at {s : List UInt8} (h : ascii s = true) {k : Nat} (hk : k < s.length) : (s.getD k 0).toNat < 128 := by
  have := List.all_eq_true.1 h (s.getD k 0) (by simp [List.getD, hk])
  exact of_decide_eq_true this
theorem ascii_drop {s : List UInt8} (h : ascii s = true) (n : Nat) : ascii (s.drop n) = true := List.all_eq_true.2 fun b hb => List.all_eq_true.1 h b (List.mem_of_mem_drop hb)

theorem runeAt_lo {s : List UInt8} {k : Nat} (hk : k < s.length) (h : (s.getD k 0).toNat < 128) : runeAt s k = ((s.getD k 0).toNat, 1) := by
  have e : (ByteArray.get! ⟨s.toArray⟩ (k + 0)) = s.getD k 0 := by simp [ByteArray.get!, hk]
  unfold runeAt Utf8.decode
  simp only [e, h, if_true]

theorem runeAt_hi {s : List UInt8} {k : Nat} (hk : k < s.length) (h : 128 ≤ (s.getD k 0).toNat) : 128 ≤ (runeAt s k).1 ∧ (runeAt s k).1 ≤ 1114111 ∧ 1 ≤ (runeAt s k).2 := by
  have e : (ByteArray.get! ⟨s.toArray⟩ (k + 0)) = s.getD k 0 := by simp [ByteArray.get!, hk]
  have hb : (s.getD k 0).toNat < 256 := (s.getD k 0).toNat_lt
  unfold runeAt Utf8.decode
  simp only [e, show ¬ (s.getD k 0).toNat < 128 by omega, if_false, Utf8.runeError]
  repeat' split
  all_goals simp only [Utf8.valid, Bool.and_eq_true, decide_eq_true_eq, Bool.or_eq_true, beq_iff_eq] at *
  all_goals omega

theorem runeAt_le {s : List UInt8} {k : Nat} (hk : k < s.length) : (runeAt s k).1 ≤ 1114111 := by
  by_cases h : (s.getD k 0).toNat < 128
  · rw [runeAt_lo hk h]; show (s.getD k 0).toNat ≤ 1114111; omega
  · exact (runeAt_hi hk (by omega)).2.1

theorem encode_last {r : Int} (h : 128 ≤ r) (hv : Lib.validRune r = true) : 2 ≤ (Utf8.encode r).data.toList.length ∧ (Utf8.encode r).data.toList.length ≤ 4 ∧ 128 ≤ ((Utf8.encode r).data.toList.getD ((Utf8.encode r).data.toList.length - 1) 0).toNat := by
  have hv' : Utf8.valid r = true := by
    simp only [Lib.validRune, decide_eq_true_eq] at hv
    simp [Utf8.valid]
    omega
  simp only [Lib.validRune, decide_eq_true_eq] at hv
  unfold Utf8.encode
  simp only [hv', if_true]
  generalize hc : r.toNat = c
  have h1 : 128 ≤ c := by omega
  have h2 : c ≤ 1114111 := by omega
  simp only [show ¬ c < 128 by omega, if_false]
  repeat' split
  all_goals simp
  all_goals omega

theorem u8_round (b : UInt8) : (b.toNat : Int).toNat.toUInt8 = b := by simp

theorem indexByte_ascii {s : List UInt8} (h : ascii s = true) {c : UInt8} (hc : 128 ≤ c.toNat) : Lib.indexByte s c = -1 := by
  induction s with
  | nil => rfl
  | cons b l ih =>
    simp only [ascii, List.all_cons, Bool.and_eq_true, decide_eq_true_eq] at h
    have hne : (b == c) = false := by
      cases hb : b == c with
      | false => rfl
      | true => have := eq_of_beq hb; subst this; omega
    simp only [Lib.indexByte, hne, ih h.2]
    rfl

def idxRune (s : List UInt8) (r : Int) : Int := match decide (r < 128) with
  | true => Lib.indexByte s r.toNat.toUInt8
  | false => -1
def S_indexByte : Spec
  | [.str s, .int .u8 c], [] => some (.int .i64 (Lib.indexByte s c.toNat.toUInt8), [], True)
  | _, _ => none
def S_validRune : Spec
  | [.int .i32 r], [] => some (.bool (Lib.validRune r), [], True)
  | _, _ => none
def S_indexRune : Spec
  | [.str s, .int .i32 r], [] => some (.int .i64 (idxRune s r), [], ascii s = true ∧ s.length ≤ 1000000 ∧ 0 ≤ r ∧ r ≤ 1114111)
  | _, _ => none
def S_containsRune : Spec
  | [.str s, .int .i32 r], [] => some (.bool (decide (0 ≤ idxRune s r)), [], ascii s = true ∧ s.length ≤ 1000000 ∧ 0 ≤ r ∧ r ≤ 1114111)
  | _, _ => none
def S_irState (s : List UInt8) (pos : Nat) : St := ⟨[(0, .str s), (175, .ptr 0 0)], [(0, .siter s pos)], 1, []⟩
/-- The search for U+FFFD in an ASCII string. -/
def L_irError (s : List UInt8) : LSpec := fun st Q => canonIs te 0 [0, 175] st (S_irState s 0) ∧ ascii s = true ∧ Q (.exit 9) ⟨[], [], 0, []⟩
def S_irState2 (s e : List UInt8) : St := ⟨[(0, .str s), (7, .str e), (8, .int .i64 ((e.length : Int) - 1)), (9, .int .i64 ((e.length : Int) - 1))], [], 0, []⟩
/-- The search for a rune beyond ASCII in an ASCII string. -/
def L_irMain (s e : List UInt8) : LSpec := fun st Q => canonIs te 0 [0, 7, 8, 9] st (S_irState2 s e) ∧ ascii s = true ∧ s.length ≤ 1000000 ∧ 2 ≤ e.length ∧ e.length ≤ 4 ∧ 128 ≤ (e.getD (e.length - 1) 0).toNat ∧
  Q (.exit 1) ⟨[], [], 0, []⟩ ∧ Q .ret ⟨[(4, .int .i64 (-1))], [], 0, []⟩

end Go.Eng
/- What the package product computes: plain functions. -/
namespace Go.Eng

def isDig (c : UInt8) : Bool := decide (48 ≤ c.toNat) && decide (c.toNat ≤ 57)
def digitsF (s : List UInt8) (a b : Int) : Bool := (decide ((s.length : Int) = a) || decide ((s.length : Int) = b)) && s.all isDig
def S_digits : Spec
  | [.str s, .int .i64 a, .int .i64 b], [] => some (.bool (digitsF s a b), [], a ≤ 100 ∧ b ≤ 100)
  | _, _ => none
/-- The weighted sum of the first i digits. -/
def cdSum (s : List UInt8) : Nat → Int
  | 0 => 0
  | i + 1 => cdSum s i + (1 + 2 * (((s.length : Int) - i) % 2)) * ((s.getD i 0).toNat - 48)
def cdF (s : List UInt8) : Int × Bool := match digitsF s 7 12 with
  | true => ((10 - cdSum s s.length % 10) % 10, true)
  | false => (0, false)
def S_checkDigit : Spec
  | [.str s], [] => some (.tuple [.int .i64 (cdF s).1, .bool (cdF s).2], [], True)
  | _, _ => none
def S_cd (s : List UInt8) (k : Nat) : St := ⟨[(0, .str s), (4, .int .i64 (cdSum s k)), (11, .int .i64 s.length), (12, .int .i64 k)], [], 0, []⟩
/-- The loop of CheckDigit. -/
def L_checkDigit (s : List UInt8) : LSpec := fun st Q => canonIs te 0 [0, 4, 11, 12] st (S_cd s 0) ∧ s.length ≤ 12 ∧ s.all isDig = true ∧
  Q (.exit 0) ⟨[(4, .int .i64 (cdSum s s.length))], [], 0, []⟩
def validIDF (s : List UInt8) : Bool := match digitsF s 8 13 with
  | true => decide ((cdF (s.take (s.length - 1))).1 = ((s.getD (s.length - 1) 0).toNat : Int) - 48)
  | false => false
def S_validID : Spec
  | [.str s], [] => some (.bool (validIDF s), [], True)
  | _, _ => none

theorem isDig_at {s : List UInt8} (h : s.all isDig = true) (k : Nat) (hk : k < s.length) : 48 ≤ (s.getD k 0).toNat ∧ (s.getD k 0).toNat ≤ 57 := by
  have := List.all_eq_true.1 h (s.getD k 0) (by simp [List.getD, hk])
  simpa [isDig] using this

theorem isDig_contains (b : UInt8) : ([48, 49, 50, 51, 52, 53, 54, 55, 56, 57] : List UInt8).contains b = isDig b := by
  have : ∀ n, n < 256 → ([48, 49, 50, 51, 52, 53, 54, 55, 56, 57] : List UInt8).contains (UInt8.ofNat n) = isDig (UInt8.ofNat n) := by decide +kernel
  have h := this b.toNat b.toNat_lt
  simpa using h

theorem dropWhile_nil {p : UInt8 → Bool} : ∀ {s : List UInt8}, s.dropWhile p = [] ↔ s.all p = true
  | [] => by simp
  | x :: s => by
    simp only [List.dropWhile_cons, List.all_cons]
    cases hx : p x <;> simp [dropWhile_nil]

theorem dropWhile_all {p : UInt8 → Bool} : ∀ {r : List UInt8}, (r.dropWhile p).all p = true → r.all p = true
  | [], h => h
  | x :: r, h => by
    rw [List.dropWhile_cons] at h
    cases hx : p x with
    | true =>
      rw [hx, if_pos rfl] at h
      rw [List.all_cons, hx, dropWhile_all h]; rfl
    | false => rw [hx, if_neg (by simp), List.all_cons, hx] at h; cases h

theorem all_rev {p : UInt8 → Bool} (s : List UInt8) : s.reverse.all p = s.all p := by simp

theorem trimF_nil (c s : List UInt8) : trimF c s = [] ↔ s.all (c.contains ·) = true := by
  unfold trimF dropR
  rw [dropWhile_nil, all_rev]
  constructor
  · intro h
    rw [← all_rev]
    exact dropWhile_all h
  · intro h
    rw [← all_rev] at h
    rw [dropWhile_nil.2 h]; rfl

theorem trimF_digits (s : List UInt8) : decide (trimF [48, 49, 50, 51, 52, 53, 54, 55, 56, 57] s = []) = s.all isDig := by
  have h := trimF_nil [48, 49, 50, 51, 52, 53, 54, 55, 56, 57] s
  simp only [isDig_contains] at h
  cases hb : s.all isDig with
  | true => exact decide_eq_true (h.2 hb)
  | false => exact decide_eq_false fun he => by rw [h.1 he] at hb; cases hb

end Go.Eng
/- Names of products: plain functions. -/
namespace Go.Eng

def nameAll : List UInt8 := [97, 98, 99, 100, 101, 102, 103, 104, 105, 106, 107, 108, 109, 110, 111, 112, 113, 114, 115, 116, 117, 118, 119, 120, 121, 122, 48, 49, 50, 51, 52, 53, 54, 55, 56, 57, 45, 46]
def nameFirst : List UInt8 := [97, 98, 99, 100, 101, 102, 103, 104, 105, 106, 107, 108, 109, 110, 111, 112, 113, 114, 115, 116, 117, 118, 119, 120, 121, 122, 48, 49, 50, 51, 52, 53, 54, 55, 56, 57]
def isLet (b : UInt8) : Bool := decide (97 ≤ b.toNat) && decide (b.toNat ≤ 122) || decide (48 ≤ b.toNat) && decide (b.toNat ≤ 57)
def isNB (b : UInt8) : Bool := isLet b || decide (b.toNat = 45) || decide (b.toNat = 46)
theorem nameAll_has (b : UInt8) : nameAll.contains b = isNB b := by
  have : ∀ n, n < 256 → nameAll.contains (UInt8.ofNat n) = isNB (UInt8.ofNat n) := by decide +kernel
  simpa using this b.toNat b.toNat_lt
theorem nameFirst_has (b : UInt8) : nameFirst.contains b = isLet b := by
  have : ∀ n, n < 256 → nameFirst.contains (UInt8.ofNat n) = isLet (UInt8.ofNat n) := by decide +kernel
  simpa using this b.toNat b.toNat_lt
theorem indexByte_iff (l : List UInt8) (c : UInt8) : 0 ≤ Lib.indexByte l c ↔ l.contains c = true := by
  induction l with
  | nil => simp [Lib.indexByte]
  | cons b l ih =>
    have hge := Lib.indexByte_ge l c
    simp only [Lib.indexByte, List.contains_cons, Bool.or_eq_true, beq_iff_eq]
    by_cases h : b = c
    · subst h; simp
    · have h' : ¬ c = b := fun e => h e.symm
      simp only [h, if_false, h', false_or, ← ih]
      split <;> omega

theorem nameRune_lo (b : UInt8) (h : b.toNat < 128) : decide (0 ≤ idxRune nameAll (b.toNat : Int)) = isNB b := by
  have e : decide ((b.toNat : Int) < 128) = true := decide_eq_true (by omega)
  simp only [idxRune, e, u8_round]
  rw [← nameAll_has]
  cases hc : nameAll.contains b with
  | true => exact decide_eq_true ((indexByte_iff _ _).2 hc)
  | false => exact decide_eq_false fun hh => by rw [(indexByte_iff _ _).1 hh] at hc; cases hc
theorem nameRune_hi (r : Nat) (h : 128 ≤ r) : decide (0 ≤ idxRune nameAll (r : Int)) = false := by
  have e : decide ((r : Int) < 128) = false := decide_eq_false (by omega)
  simp only [idxRune, e]
  rfl

def S_name1 : Spec
  | [.int .i32 r], [] => some (.bool (!decide (0 ≤ idxRune nameAll r)), [], 0 ≤ r ∧ r ≤ 1114111)
  | _, _ => none
def badAt (s : List UInt8) : Nat := s.findIdx fun b => !isNB b
def firstBad (s : List UInt8) : Int := match s.all isNB with
  | true => -1
  | false => badAt s
def S_ifState (s : List UInt8) (pos : Nat) : St := ⟨[(1, .func 145 []), (2, .bool true), (10, .ptr 0 0)], [(0, .siter s pos)], 1, []⟩
def L_indexFunc (s : List UInt8) : LSpec := fun st Q => canonIs te 0 [1, 2, 10] st (S_ifState s 0) ∧ condP (s.all isNB) (Q (.exit 0) ⟨[], [], 0, []⟩) (Q .ret ⟨[(6, .int .i64 (badAt s))], [], 0, []⟩)
def S_indexFunc : Spec
  | [.str s, .func 145 [], .bool true], [] => some (.int .i64 (firstBad s), [], True)
  | _, _ => none
def S_IndexFunc : Spec
  | [.str s, .func 145 []], [] => some (.int .i64 (firstBad s), [], True)
  | _, _ => none
def S_ContainsFunc : Spec
  | [.str s, .func 145 []], [] => some (.bool (!s.all isNB), [], True)
  | _, _ => none
def nameF (s : List UInt8) : Bool := decide (1 ≤ s.length) && decide (s.length ≤ 24) && isLet (s.getD 0 0) && s.all isNB
def S_name : Spec
  | [.str s], [] => some (.bool (nameF s), [], True)
  | _, _ => none

theorem badAt_spec {s : List UInt8} (h : s.all isNB = false) : badAt s < s.length ∧ isNB (s.getD (badAt s) 0) = false ∧ ∀ k, k < badAt s → isNB (s.getD k 0) = true := by
  have hlt : badAt s < s.length := by
    unfold badAt
    rw [List.findIdx_lt_length]
    have : ¬ ∀ x ∈ s, isNB x = true := fun hh => by rw [List.all_eq_true.2 hh] at h; cases h
    simp only [Classical.not_forall] at this
    obtain ⟨x, hx, hb⟩ := this
    exact ⟨x, hx, by simpa using hb⟩
  refine ⟨hlt, ?_, fun k hk => ?_⟩
  · have := List.findIdx_getElem (p := fun b => !isNB b) (xs := s) (w := hlt)
    have e : s.getD (badAt s) 0 = s[badAt s] := by simp [List.getD, hlt]
    rw [e]
    show isNB s[List.findIdx (fun b => !isNB b) s] = false
    simpa using this
  · have hk' : k < s.length := Nat.lt_trans hk hlt
    have := List.not_of_lt_findIdx (p := fun b => !isNB b) (xs := s) hk
    have e : s.getD k 0 = s[k] := by simp [List.getD, hk']
    rw [e]
    simpa using this

theorem trimF_first (b : UInt8) : decide (trimF [97, 98, 99, 100, 101, 102, 103, 104, 105, 106, 107, 108, 109, 110, 111, 112, 113, 114, 115, 116, 117, 118, 119, 120, 121, 122, 48, 49, 50, 51, 52, 53, 54, 55, 56, 57] [b] = []) = isLet b := by
  have h := trimF_nil nameFirst [b]
  simp only [List.all_cons, List.all_nil, Bool.and_true, nameFirst_has] at h
  cases hb : isLet b with
  | true => exact decide_eq_true (h.2 hb)
  | false => exact decide_eq_false fun he => by rw [h.1 he] at hb; cases hb

theorem firstBad_neg (s : List UInt8) : decide (0 ≤ firstBad s) = !s.all isNB := by
  unfold firstBad
  cases s.all isNB with
  | true => rfl
  | false => exact decide_eq_true (Int.natCast_nonneg _)

end Go.Eng
/- The reference of the products: plain functions. -/
namespace Go.Eng

def S_cdrState (s : List UInt8) (k : Nat) : St := ⟨[(0, .str s), (4, .int .i64 (cdSum s k)), (16, .int .i64 s.length), (17, .int .i64 k)], [], 0, []⟩
def L_checkDigitR (s : List UInt8) : LSpec := fun st Q => canonIs te 0 [0, 4, 16, 17] st (S_cdrState s 0) ∧ s.length ≤ 12 ∧ condP (s.all isDig) (Q (.exit 0) ⟨[(4, .int .i64 (cdSum s s.length))], [], 0, []⟩) (Q .ret ⟨[(2, .int .i64 0), (3, .bool false)], [], 0, []⟩)

theorem cdSum_boundk {s : List UInt8} : ∀ k, k ≤ s.length → (∀ j, j < k → 48 ≤ (s.getD j 0).toNat ∧ (s.getD j 0).toNat ≤ 57) → 0 ≤ cdSum s k ∧ cdSum s k ≤ 27 * k
  | 0, _, _ => by simp [cdSum]
  | k + 1, hk, h => by
    have ih := cdSum_boundk k (by omega) fun j hj => h j (by omega)
    have hd := h k (by omega)
    simp only [cdSum]
    rcases Int.emod_two_eq (↑s.length - ↑k) with e | e <;> rw [e] <;> omega

theorem all_isDig {s : List UInt8} (h : ∀ j, j < s.length → 48 ≤ (s.getD j 0).toNat ∧ (s.getD j 0).toNat ≤ 57) : s.all isDig = true := by
  refine List.all_eq_true.2 fun b hb => ?_
  obtain ⟨j, hj, rfl⟩ := List.getElem_of_mem hb
  have := h j hj
  have e : s.getD j 0 = s[j] := by simp [List.getD, hj]
  rw [e] at this
  simp [isDig, this.1, this.2]

end Go.Eng
/- Contents of packages: plain functions. -/
namespace Go.Eng

def qtyF (d c a : Int) : Int := bif decide (d < 1) then 80 else bif decide (4 < d) then 80 else bif decide (c < 1) then 81 else bif decide (100 < c) then 81 else bif decide (a < 1) then 82 else bif decide (Int.tdiv 1099511627776 c < a) then 82 else 0
def S_qty : Spec
  | [.agg [.int .i64 d, .int .i64 c, .int .i64 a]], [] => some (.int .i64 (qtyF d c a), [], True)
  | _, _ => none
theorem qty_bound {c : Int} (h1 : ¬ c < 1) (h2 : ¬ 100 < c) : c ≠ 0 ∧ inR .i64 (Int.tdiv 1099511627776 c) := by
  refine ⟨by omega, ?_⟩
  rw [Int.tdiv_eq_ediv_of_nonneg (by omega)]
  simp only [inR]
  have h3 : 0 ≤ 1099511627776 / c := Int.ediv_nonneg (by omega) (by omega)
  have h4 : 1099511627776 / c ≤ 1099511627776 := Int.ediv_le_self _ (by omega)
  omega

end Go.Eng
/- Levels of codes and the validation of products: plain functions. -/
namespace Go.Eng

def levelV (s : List UInt8) : Int := match parseOK s with
  | true => (words s).length
  | false => match decide (s = []) with
    | true => 0
    | false => -1
def S_level : Spec
  | [.str s], [] => some (.int .i64 (levelV s), [], s.length < 4294967281)
  | _, _ => none
theorem levelV_lt (s : List UInt8) : decide (levelV s < 1) = !parseOK s := by
  unfold levelV
  cases h : parseOK s with
  | true =>
    have hn : 1 ≤ (words s).length := by rw [words_len]; omega
    have hlt : ¬ (((words s).length : Int) < 1) := by omega
    exact decide_eq_false hlt
  | false => cases decide (s = []) <;> rfl

def freshAt (nm : Nat → List UInt8) : Nat → Nat → Bool
  | 0, _ => true
  | j + 1, k => freshAt nm j k && !decide (nm k = nm j)
def atOK (nm vl : Nat → List UInt8) (k : Nat) : Bool := nameF (nm k) && nameF (vl k) && freshAt nm k k
def atsOK (nm vl : Nat → List UInt8) : Nat → Bool
  | 0 => true
  | k + 1 => atsOK nm vl k && atOK nm vl k
def valF (id code brand : List UInt8) (d c a : Int) (n : Nat) (nm vl : Nat → List UInt8) : Int :=
  bif !validIDF id then 90 else bif !parseOK code then 91 else bif !nameF brand then 92 else bif !decide (qtyF d c a = 0) then 93 else bif decide (12 < n) then 94 else bif atsOK nm vl n then 0 else 94

def nmOf (f : Nat → List AV) (i : Nat) : List UInt8 := strOf ((f i).getD 0 .any)
def vlOf (f : Nat → List AV) (i : Nat) : List UInt8 := strOf ((f i).getD 1 .any)
def atRow (nm vl : Nat → List UInt8) : Nat → List AV := fun i => [.str (nm i), .str (vl i)]
end Go.Eng
