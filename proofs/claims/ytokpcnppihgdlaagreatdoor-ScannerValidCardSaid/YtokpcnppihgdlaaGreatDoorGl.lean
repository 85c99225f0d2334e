/- Lemmas that the tied card of ScannerValid is proved by. -/
import Derived.Test.YtokpcnppihgdlaaGreatDoorGj
import Derived.Test.YtokpcnppihgdlaaGreatDoorGk
import Derived.KernelRfl
import Derived.HandedShaped
import Derived.ProofKit
import Derived.Below
import Derived.Lib.AtoiAll
import Derived.Lib.ItoaNum
import Derived.Lib.Split
import Derived.Lib.CountLaws
/- The program's types. -/
namespace Go.Eng
open Go.Proofs

theorem prg {C : Ctx} (hP : C.P = Tryz.prog) : Prg C te := ⟨hP ▸ te_ok, te_one⟩

end Go.Eng
/- From a row's arguments to the engine: what was read as data, told in abstract values; a call with no objects, told in the model's words. -/
namespace Go.Eng
open Go.Proofs Go.RowKit
variable {H : Type} {enc : TypeId × Value → H}

/-- The wrap with a condition on the world, the world's shape kept. -/
theorem handed_and_shaped {a : Assume} {C : Checked} {os : Os} {f : FuncId} {fn : Func} {s : ChangeSpec} {conds : List PathCond} {apart fresh handsOn again : Bool} {X : World → Array Value → Prop}
    (hX : ∀ (w w' : World) (args : Array Value), w.heap = w'.heap → X w args → X w' args)
    (own : ownKnob C.prog.godebug = none) (started : os.Started) (noInit : C.prog.inits.idxOf? f = none) (hfn : C.prog.funcs[f]? = some fn)
    (witness : ∃ (w : World) (tape : Tape) (i : Input), w.os = os ∧ (w.forCall tape i).Shaped C.prog ∧ i.vars = [] ∧ Input.okWide C.prog (w.forCall tape i) .any w.heap.size f i ∧
      ((s.pre enc C.prog fn conds apart (w.forCall tape i).memory i.args ∧ X (w.forCall tape i).memory i.args) ∧ sizedMet enc C.prog fn (OpenSpec.ofChange s) apart (w.forCall tape i).memory i.args) ∧ a.holds C.prog (lone (Frame.enter C.prog f i.args .normal) [] (w.forCall tape i)))
    (contract : ∀ (W : World) (base : Nat) (args : Array Value) (ds gs : List (DataW H)) (before : List MemPlace),
      (∀ (j : Nat) t v, fn.params[j]? = some t → args[j]? = some v → Value.okWide C.prog W .any base t v) →
      DataW.Whole enc C.prog fn.params.toList s.vars apart W args.toList ds gs before → X W args → W.ShapedOpen C.prog →
      Calls C.prog f args W fun e W' => ∃ v, e = .returned v ∧ s.post enc C.prog fn apart fresh handsOn again W args v W') :
    ReturnsInHanded a C os f .any (fun w args => (s.pre enc C.prog fn conds apart w args ∧ X w args) ∧ sizedMet enc C.prog fn (OpenSpec.ofChange s) apart w args) (s.post enc C.prog fn apart fresh handsOn again) := by
  refine returnsInHanded_of_calls own started noInit witness ?_
  intro w tape i _ hsh _ hok hpre _
  obtain ⟨_, _, _, fn', hfn', _, _, _, _, hval⟩ := hok
  have e : fn' = fn := Option.some.inj (hfn'.symm.trans hfn)
  subst e
  obtain ⟨⟨⟨ds, gs, before, hw, _⟩, hx⟩, _⟩ := hpre
  have hw' := DataW.Whole.of_heap (w' := w.forCall tape i) (by rfl) hw
  have hx' := hX _ (w.forCall tape i) i.args (by rfl) hx
  refine (contract (w.forCall tape i) w.heap.size i.args ds gs before hval hw' hx' hsh).mono fun e W' ⟨v, he, hp⟩ => ?_
  subst he
  exact ChangeSpec.post_blind hp

/-- A call with no objects, from outside. -/
theorem ADet.top {C : Ctx} {f : FuncId} {args : List AV} {b : Bool} (h : ADet C f args [] (.bool b) []) {w : World} (hl : C.laid w) (hg : C.gsz ≤ w.heap.size) {cargs : List Value} (hlen : cargs.length = args.length)
    (hV : ∀ (j : Nat) v u, cargs[j]? = some v → args[j]? = some u → V w (fun _ => False) nob v u) : Calls C.P f cargs.toArray w fun e w' => e = .returned (.bool b) ∧ Below w.heap.size w w' := by
  have no : ∀ r, lkL [] r = none := fun r => by cases r <;> rfl
  have nm : ∀ b', ¬ mutB (lkL []) nob b' := by
    rintro b' ⟨r, o, c, ho, _⟩
    rw [no r] at ho; cases ho
  have hw : WRep C ⟨w, 0, nob, fun _ => False, fun _ => False⟩ (lkL []) nob w := {
    obj := fun r o ho => by rw [no r] at ho; cases ho
    sep := fun r r' o o' b c c' ho => by rw [no r] at ho; cases ho
    out := fun b hb => absurd hb (nm b)
    frz := fun r t sz n f b c ho => by rw [no r] at ho; cases ho
    high := fun b hb => by
      rcases hb with hb | hb
      · exact hb.elim
      · exact absurd hb (nm b)
    lt := fun r b c hb => by simp [nob] at hb
    outlt := fun b hb => hb.elim
    keep := fun b _ _ => rfl
    old := fun b hb => absurd hb (nm b)
    size := Nat.le_refl _
    pre := fun r x hr => absurd hr (Nat.not_lt_zero r)
    os := rfl
    tape := .refl _ _
    output := rfl
    laid := hl
    gle := hg }
  refine (h.2 ⟨w, 0, nob, fun _ => False, fun _ => False⟩ nob w cargs rfl rfl rfl hw (fun _ _ => rfl) hlen (fun j v u hv hu => (hV j v u hv hu).step_ (fun b _ _ hb => ?_) (fun _ _ _ => rfl) (Nat.le_refl _) nob (fun _ _ h => h))).mono ?_
  · rcases hb with hb | hb
    · exact hb
    · exact nm b hb
  · rintro e w' ⟨v, u, O', bs', rfl, ⟨rfl, rfl⟩, hw', hV', _⟩
    cases hV'
    exact ⟨rfl, hw'.os, hw'.tape.tape, hw'.output, hw'.size, fun i hi => hw'.keep i hi (fun h => h)⟩

theorem V_view {W : World} {A : Option Addr} {n c sz : Nat} (g : Nat → List AV) (hn : n ≤ c) (hc : c ≤ maxLen) (hl : ∀ i, i < n → (g i).length = sz)
    (h : n = 0 ∨ ∃ ad, A = some ad ∧ ad.block < W.heap.size ∧ ∀ i, i < n → ∀ j, j < sz → ∃ v, W.cell? (ad.add (i * sz + j)) = some v ∧ v.oneCell' = true ∧ ∀ u, (g i)[j]? = some u → V W (fun _ => False) nob v u) : V W (fun _ => False) nob (.slice A n c) (.view sz n g) := by
  rcases h with rfl | ⟨ad, rfl, hb, h⟩
  · exact .view ⟨0, 0, none⟩ (fun _ _ => default) hn hc (fun h => absurd h (by omega)) hl (fun i hi => by omega) (fun i hi => by omega) (fun i hi => by omega)
  · have hj : ∀ i, i < n → ∀ j u, (g i)[j]? = some u → j < sz := fun i hi j u hu => by
      have := (List.getElem?_eq_some_iff.1 hu).1
      rw [hl i hi] at this; exact this
    refine .view ad (fun i j => (W.cell? (ad.add (i * sz + j))).getD default) hn hc (fun _ => ⟨rfl, fun h => h, hb⟩) hl (fun i hi j hj => ?_) (fun i hi j hj => ?_) (fun i hi j u hu => ?_)
    · obtain ⟨v, h1, _⟩ := h i hi j hj
      rw [h1]; rfl
    · obtain ⟨v, h1, h2, _⟩ := h i hi j hj
      rw [h1]; exact h2
    · obtain ⟨v, h1, _, h3⟩ := h i hi j (hj i hi j u hu)
      rw [h1]; exact h3 u hu

end Go.Eng
/- What the library's functions compute: plain functions. -/
namespace Go.Eng

def dropR (p : UInt8 → Bool) (s : List UInt8) : List UInt8 := (s.reverse.dropWhile p).reverse
def trimF (c s : List UInt8) : List UInt8 := (dropR (c.contains ·) s).dropWhile (c.contains ·)
def S_trim : Spec
  | [.str s, .str c], [] => some (.str (trimF c s), [], s.length ≤ maxLen ∧ 2 ≤ c.length ∧ c.length < 4294967281 ∧ ∀ b ∈ c, b.toNat < 128)
  | _, _ => none

theorem dropR_snoc (p : UInt8 → Bool) (r : List UInt8) (x : UInt8) : dropR p (r ++ [x]) = if p x then dropR p r else r ++ [x] := by
  unfold dropR
  simp only [List.reverse_append, List.reverse_cons, List.reverse_nil, List.nil_append, List.cons_append, List.dropWhile_cons]
  split <;> simp
theorem snoc_cases {α : Type} (l : List α) : l = [] ∨ ∃ r x, l = r ++ [x] := by
  rcases List.eq_nil_or_concat l with h | ⟨r, x, h⟩
  · exact .inl h
  · exact .inr ⟨r, x, by rw [h]; simp⟩

/-- A set of bytes as a variable of 256 truth values. -/
def inSet (cells : List AV) (x : UInt8) : Bool := boolOf (cells.getD x.toNat .any)
def SetOK (cells : List AV) : Prop := cells.length = 256 ∧ ∀ u ∈ cells, ∃ b, u = .bool b
theorem SetOK.at_ {cells : List AV} (h : SetOK cells) (x : UInt8) : cells[x.toNat]? = some (.bool (inSet cells x)) := by
  have hlt : x.toNat < cells.length := by rw [h.1]; exact x.toNat_lt
  obtain ⟨b, hb⟩ := h.2 cells[x.toNat] (List.getElem_mem hlt)
  have : inSet cells x = b := by simp [inSet, hlt, hb, boolOf]
  rw [this, List.getElem?_eq_getElem hlt, hb]
theorem SetOK.rn {cells : List AV} (h : SetOK cells) (ρ : Nat → Option Nat) : AV.rnL ρ cells = cells := by
  have key : ∀ l : List AV, (∀ u ∈ l, ∃ b, u = .bool b) → AV.rnL ρ l = l := by
    intro l
    induction l with
    | nil => intro _; rfl
    | cons u l ih =>
      intro hl
      obtain ⟨b, rfl⟩ := hl u (by simp)
      simp only [AV.rnL, AV.rn, ih fun u hu => hl u (List.mem_cons_of_mem _ hu)]
  exact key cells h.2

@[irreducible] def setAV (cs : List UInt8) : List AV := (List.range 256).map fun i => .bool (cs.contains (UInt8.ofNat i))
theorem setAV_ok (cs : List UInt8) : SetOK (setAV cs) := ⟨by unfold setAV; simp, fun u hu => by
  unfold setAV at hu
  obtain ⟨i, _, rfl⟩ := List.mem_map.1 hu
  exact ⟨_, rfl⟩⟩
theorem inSet_setAV (cs : List UInt8) (x : UInt8) : inSet (setAV cs) x = cs.contains x := by
  have : x.toNat < 256 := x.toNat_lt
  unfold inSet setAV; simp [List.getD, this, boolOf]

def S_setContains : Spec
  | [.ptr 0 0, .int .u8 x], [.cells cells t] => some (.bool (inSet cells (UInt8.ofNat x.toNat)), [(0, .cells cells t)], SetOK cells ∧ 0 ≤ x ∧ x < 256)
  | _, _ => none
def S_trimLeftA : Spec
  | [.str s, .ptr 0 0], [.cells cells 174] => some (.str (s.dropWhile (inSet cells)), [(0, .cells cells 174)], SetOK cells)
  | _, _ => none
def S_trimRightA : Spec
  | [.str s, .ptr 0 0], [.cells cells 174] => some (.str (dropR (inSet cells) s), [(0, .cells cells 174)], SetOK cells ∧ s.length ≤ maxLen)
  | _, _ => none
def S_tlState (cells : List AV) (t : Nat) (s : List UInt8) : St := ⟨[(0, .str s), (1, .ptr 0 0)], [(0, .cells cells t)], 1, []⟩
def L_trimLeftA (s : List UInt8) (cells : List AV) (t : Nat) : LSpec := fun st Q => canonIs te 1 [0, 1] st (S_tlState cells t s) ∧ SetOK cells ∧ Q (.exit 0) ⟨[(0, .str (s.dropWhile (inSet cells)))], [(0, .cells cells t)], 1, []⟩
def L_trimRightA (s : List UInt8) (cells : List AV) (t : Nat) : LSpec := fun st Q => canonIs te 1 [0, 1] st (S_tlState cells t s) ∧ SetOK cells ∧ s.length ≤ maxLen ∧ Q (.exit 0) ⟨[(0, .str (dropR (inSet cells) s))], [(0, .cells cells t)], 1, []⟩
def S_makeSet : Spec
  | [.str l], [] => some (.tuple [.agg (setAV l), .bool true], [], l.length < 4294967281 ∧ ∀ b ∈ l, b.toNat < 128)
  | _, _ => none
/-- The set is made and laid into a variable. -/
def L_trimSet (s cs : List UInt8) : LSpec := fun st Q => canonIs te 0 [0, 1] st ⟨[(0, .str s), (1, .str cs)], [], 0, []⟩ ∧ cs.length < 4294967281 ∧ (∀ b ∈ cs, b.toNat < 128) ∧
  Q .normal ⟨[(0, .str s), (5, .ptr 0 0), (6, .bool true)], [(0, .cells (setAV cs) 174)], 1, []⟩


theorem toNat_len_pos (x : UInt8) (s : List UInt8) : (0 : Int) < ((x :: s).length : Int) := by simp

end Go.Eng
/- Codes of classifications: plain functions. -/
namespace Go.Eng

def vInt (f : Nat → List AV) (i : Nat) : Int := intOf ((f i).headD .any)
def intRow (v : Nat → Int) : Nat → List AV := fun i => [.int .i64 (v i)]
def minV (v : Nat → Int) : Nat → Int
  | 0 => v 0
  | k + 1 => min (minV v k) (v (k + 1))
def maxV (v : Nat → Int) : Nat → Int
  | 0 => v 0
  | k + 1 => max (maxV v k) (v (k + 1))
def S_min : Spec
  | [.own 0 n], [.row t 1 m f fr] => some (.int .i64 (minV (vInt f) (n - 1)), [(0, .row t 1 m f fr)], t = 3 ∧ fr = false ∧ 1 ≤ n ∧ n = m ∧ n ≤ 4611686018427387904 ∧ f = intRow (vInt f))
  | _, _ => none
def S_max : Spec
  | [.own 0 n], [.row t 1 m f fr] => some (.int .i64 (maxV (vInt f) (n - 1)), [(0, .row t 1 m f fr)], t = 3 ∧ fr = false ∧ 1 ≤ n ∧ n = m ∧ n ≤ 4611686018427387904 ∧ f = intRow (vInt f))
  | _, _ => none
def S_mmState (n : Nat) (v g : Nat → Int) (k : Nat) : St := ⟨[(0, .own 0 n), (3, .int .i64 (g k)), (4, .int .i64 ((k : Int) + 1))], [(0, .row 3 1 n (fun i => [.int .i64 (v i)]) false)], 1, []⟩
def L_mm (n : Nat) (v g : Nat → Int) : LSpec := fun st Q => canonIs te 1 [0, 3, 4] st (S_mmState n v g 0) ∧ 1 ≤ n ∧ n ≤ 4611686018427387904 ∧ Q (.exit 0) ⟨[(3, .int .i64 (g (n - 1)))], [(0, .row 3 1 n (fun i => [.int .i64 (v i)]) false)], 1, []⟩

theorem rowsEq1 {r : Nat} {t : TypeId} {sz n : Nat} {f : Nat → List AV} {fr : Bool} : RowsEq [(r, .row t sz n f fr)] [(r, .row t sz n f fr)] := ⟨⟨rfl, rfl, rfl, rfl, rfl, fun _ _ => rfl⟩, trivial⟩

def decF (n : Int) : List UInt8 := Lib.decDigits n.toNat
def S_itoa : Spec
  | [.int .i64 n], [] => some (.str (decF n), [], 0 ≤ n ∧ n < 100)
  | _, _ => none
def atoiZ (l : List UInt8) : Int := match Lib.atoiAll l with
  | .ok v => v
  | .range => Lib.atoiSat l
  | _ => 0
def S_atoi : Spec
  | [.str s], [] => some (.tuple [.int .i64 (atoiZ s), .any], [], s.length ≤ 281474976710656)
  | _, _ => none
def words (s : List UInt8) : List (List UInt8) := Lib.split s [46]
def S_split : Spec
  | [.str s, .str sep], [] => some (.view 1 (words s).length (fun i => [.str ((words s).getD i [])]), [], s.length < 4294967281 ∧ sep = [46])
  | _, _ => none

def fmtRest (v : Nat → Int) : Nat → List UInt8
  | 0 => []
  | k + 1 => fmtRest v k ++ (46 :: decF (v (k + 1)))
def fmtHead (a : Int) : List UInt8 := match decide (a < 10) with
  | true => 48 :: decF a
  | false => decF a
def fmtZ (n : Nat) (v : Nat → Int) : List UInt8 := fmtHead (v 0) ++ fmtRest v (n - 1)
def fmtOK (n : Nat) (v : Nat → Int) : Bool := decide (1 ≤ n) && decide (n ≤ 5) && decide (1 ≤ minV v (n - 1)) && decide (maxV v (n - 1) ≤ 99)
def S_format : Spec
  | [.own 0 n], [.row t 1 m f fr] => some (.tuple [.str (bif fmtOK n (vInt f) then fmtZ n (vInt f) else []), .int .i64 (bif fmtOK n (vInt f) then 0 else 64)], [(0, .row t 1 m f fr)], t = 3 ∧ fr = false ∧ n = m ∧ n ≤ 4611686018427387904 ∧ f = intRow (vInt f))
  | _, _ => none
def S_fmtState (n : Nat) (v : Nat → Int) (k : Nat) : St := ⟨[(4, .str (fmtHead (v 0) ++ fmtRest v k)), (36, .sub 0 1 1 (n - 1)), (37, .int .i64 (n - 1 : Nat)), (38, .int .i64 k)], [(0, .row 3 1 n (fun i => [.int .i64 (v i)]) false)], 1, []⟩
def L_fmt (n : Nat) (v : Nat → Int) : LSpec := fun st Q => canonIs te 1 [4, 36, 37, 38] st (S_fmtState n v 0) ∧ fmtOK n v = true ∧ Q (.exit 0) ⟨[(4, .str (fmtZ n v))], [(0, .row 3 1 n (fun i => [.int .i64 (v i)]) false)], 1, []⟩

theorem minV_le (v : Nat → Int) : ∀ k i, i ≤ k → minV v k ≤ v i
  | 0, i, h => by have : i = 0 := by omega
                  subst this; exact Int.le_refl _
  | k + 1, i, h => by
    simp only [minV]
    rcases Nat.lt_or_ge i (k + 1) with hi | hi
    · have := minV_le v k i (by omega); omega
    · have : i = k + 1 := by omega
      subst this; omega
theorem le_maxV (v : Nat → Int) : ∀ k i, i ≤ k → v i ≤ maxV v k
  | 0, i, h => by have : i = 0 := by omega
                  subst this; exact Int.le_refl _
  | k + 1, i, h => by
    simp only [maxV]
    rcases Nat.lt_or_ge i (k + 1) with hi | hi
    · have := le_maxV v k i (by omega); omega
    · have : i = k + 1 := by omega
      subst this; omega
theorem fmtOK_n {n : Nat} {v : Nat → Int} (h : fmtOK n v = true) : 1 ≤ n ∧ n ≤ 5 := by
  unfold fmtOK at h
  simp only [Bool.and_eq_true, decide_eq_true_eq] at h
  omega
theorem fmtOK_at {n : Nat} {v : Nat → Int} (h : fmtOK n v = true) (i : Nat) (hi : i < n) : 1 ≤ v i ∧ v i ≤ 99 := by
  unfold fmtOK at h
  simp only [Bool.and_eq_true, decide_eq_true_eq] at h
  have h1 := minV_le v (n - 1) i (by omega)
  have h2 := le_maxV v (n - 1) i (by omega)
  omega
theorem decF_lo {n : Int} (h0 : 0 ≤ n) (h1 : n < 10) : decF n = [UInt8.ofNat (48 + n.toNat)] := by
  unfold decF Lib.decDigits
  rw [dif_pos (by omega)]
theorem decF_hi {n : Int} (h0 : 10 ≤ n) (h1 : n < 100) : decF n = [UInt8.ofNat (48 + n.toNat / 10), UInt8.ofNat (48 + n.toNat % 10)] := by
  unfold decF
  rw [Lib.decDigits, dif_neg (by omega), Lib.decDigits, dif_pos (by omega)]
  rfl
theorem decF_len {n : Int} (h : 1 ≤ n ∧ n ≤ 99) : (decF n).length ≤ 2 := by
  rcases Int.lt_or_le n 10 with h1 | h1
  · rw [decF_lo (by omega) h1]; simp
  · rw [decF_hi h1 (by omega)]; simp
theorem fmtHead_len {n : Int} (h : 1 ≤ n ∧ n ≤ 99) : (fmtHead n).length ≤ 3 := by
  have := decF_len h
  unfold fmtHead
  split
  · simp; omega
  · omega
theorem fmtRest_len {n : Nat} {v : Nat → Int} (h : ∀ i, i < n → 1 ≤ v i ∧ v i ≤ 99) : ∀ k, k < n → (fmtRest v k).length ≤ 3 * k
  | 0, _ => by simp [fmtRest]
  | k + 1, hk => by
    have ih := fmtRest_len h k (by omega)
    have hd := decF_len (h (k + 1) hk)
    simp only [fmtRest, List.length_append, List.length_cons]
    omega

theorem words_miss {s : List UInt8} (h : Lib.index s [46] = -1) : words s = [s] := by
  unfold words Lib.split
  rw [Lib.count_miss h]; rfl
theorem words_hit {s : List UInt8} {i : Nat} (h : Lib.index s [46] = i) : words s = s.take i :: words (s.drop (i + 1)) := by
  have hc := Lib.count_hit (sub := [46]) (by simp) h
  unfold words Lib.split
  rw [hc, Nat.add_comm 1]
  have hne : (Lib.index s [46] == -1) = false := by rw [h]; simp
  show (if Lib.index s [46] == -1 then [s] else _) = _
  rw [hne, h]
  simp
theorem index_cases (s : List UInt8) : Lib.index s [46] = -1 ∨ ∃ i : Nat, Lib.index s [46] = i := by
  have := Lib.index_ge s [46]
  rcases Int.lt_or_le (Lib.index s [46]) 0 with h | h
  · exact .inl (by omega)
  · exact .inr ⟨(Lib.index s [46]).toNat, by omega⟩
theorem words_len (s : List UInt8) : (words s).length = Lib.count s [46] + 1 := by
  have key : ∀ n, ∀ s : List UInt8, s.length ≤ n → (words s).length = Lib.count s [46] + 1 := by
    intro n
    induction n with
    | zero =>
      intro s hs
      have : s = [] := List.length_eq_zero_iff.1 (by omega)
      subst this
      rw [words_miss rfl, Lib.count_miss rfl]; rfl
    | succ n ih =>
      intro s hs
      rcases index_cases s with h | ⟨i, h⟩
      · rw [words_miss h, Lib.count_miss h]; rfl
      · rw [words_hit h, Lib.count_hit (sub := [46]) (by simp) h]
        have hr := Lib.index_room s [46] (by omega)
        simp only [List.length_cons, List.length_nil, Nat.zero_add] at hr ⊢
        rw [ih _ (by simp; omega)]
        omega
  exact key _ s (Nat.le_refl _)

theorem words_le (s : List UInt8) : ∀ w ∈ words s, w.length ≤ s.length := by
  have key : ∀ n, ∀ s : List UInt8, s.length ≤ n → ∀ w ∈ words s, w.length ≤ s.length := by
    intro n
    induction n with
    | zero =>
      intro s hs w hw
      have : s = [] := List.length_eq_zero_iff.1 (by omega)
      subst this
      rw [words_miss rfl] at hw
      simp at hw
      subst hw; simp
    | succ n ih =>
      intro s hs w hw
      rcases index_cases s with h | ⟨i, h⟩
      · rw [words_miss h] at hw
        simp at hw
        subst hw; exact Nat.le_refl _
      · rw [words_hit h] at hw
        have hr := Lib.index_room s [46] (by omega)
        simp only [List.length_cons, List.length_nil, Nat.zero_add] at hr
        rcases List.mem_cons.1 hw with rfl | hw
        · simp; omega
        · have := ih (s.drop (i + 1)) (by simp; omega) w hw
          simp at this; omega
  exact key _ s (Nat.le_refl _)

/-- What the program's variables hold when a call begins. -/
structure LaidW (w : World) : Prop where
  maxLen : ∃ m, w.cell? ⟨0, 0, none⟩ = some (.int .i64 m)
  errS : ∃ t p, w.cell? ⟨3, 0, none⟩ = some (.iface t p)
  errR : ∃ t p, w.cell? ⟨4, 0, none⟩ = some (.iface t p)

def wordV (s : List UInt8) (i : Nat) : Int := atoiZ ((words s).getD i [])
def parseOK (s : List UInt8) : Bool := fmtOK (words s).length (wordV s) && decide (fmtZ (words s).length (wordV s) = s)
def S_paState (s : List UInt8) (k : Nat) : St := ⟨[(0, .str s), (4, .own 0 k), (12, .view 1 (words s).length (fun i => [.str ((words s).getD i [])])), (13, .int .i64 ((words s).length : Nat)), (14, .int .i64 k)], [(0, .row 3 1 k (fun i => [.int .i64 (wordV s i)]) false)], 1, []⟩
def L_parse (s : List UInt8) : LSpec := fun st Q => canonIs te 0 [0, 4, 12, 13, 14] (ownNil 4 3 1 st) (S_paState s 0) ∧ s.length < 4294967281 ∧ Q (.exit 0) ⟨[(0, .str s), (4, .own 0 (words s).length)], [(0, .row 3 1 (words s).length (fun i => [.int .i64 (wordV s i)]) false)], 1, []⟩
def R_parse : RSpec
  | [.str s], [], R => s.length < 4294967281 ∧ condP (parseOK s) (R (.tuple [.own 0 (words s).length, .int .i64 0]) [(0, .row 3 1 (words s).length (fun i => [.int .i64 (wordV s i)]) false)]) (R (.tuple [.nil, .int .i64 60]) [])
  | _, _, _ => False


end Go.Eng
/- The reference of the codes: plain functions. -/
namespace Go.Eng

def dig (b : UInt8) : Bool := decide (48 ≤ b.toNat) && decide (b.toNat ≤ 57)
/-- At most two digits: their value, how many. -/
def numAt : List UInt8 → Nat × Nat
  | [] => (0, 0)
  | [b] => match dig b with
    | true => (b.toNat - 48, 1)
    | false => (0, 0)
  | b :: c :: _ => match dig b with
    | true => match dig c with
      | true => (10 * (b.toNat - 48) + (c.toNat - 48), 2)
      | false => (b.toNat - 48, 1)
    | false => (0, 0)

/-- Is there no further part here? (k: how many came before) -/
def noPart (k : Nat) (r : List UInt8) : Bool := decide ((numAt r).2 = 0) || decide ((numAt r).1 = 0) || (decide (k = 0) && !decide ((numAt r).2 = 2)) || (decide (0 < k) && decide ((r.getD 0 0).toNat = 48)) || decide (k = 5)

def pref : Nat → Nat → List UInt8 → Option (List Int)
  | 0, _, _ => none
  | fuel + 1, k, r => match noPart k r with
    | true => none
    | false => match r.drop (numAt r).2 with
      | [] => some [((numAt r).1 : Int)]
      | b :: r' => match decide (b.toNat = 46) with
        | true => match pref fuel (k + 1) r' with
          | some l => some (((numAt r).1 : Int) :: l)
          | none => none
        | false => none

def dg (s : List UInt8) (j : Nat) : Int := ((s.getD j 0).toNat : Int) - 48
def nv (s : List UInt8) (a : Nat) : Nat → Int
  | 0 => 0
  | 1 => dg s a
  | _ => 10 * dg s a + dg s (a + 1)
def S_in (s : List UInt8) (k : Nat) (v : Nat → Int) (a c : Nat) : St := ⟨[(0, .str s), (4, .own 0 k), (5, .int .i64 ((a : Int) + c)), (6, .int .i64 (nv s a c)), (7, .int .i64 a)], [(0, .row 3 1 k (fun i => [.int .i64 (v i)]) false)], 1, []⟩
def L_in (s : List UInt8) (k : Nat) (v : Nat → Int) (a : Nat) : LSpec := fun st Q => canonIs te 0 [0, 4, 5, 6, 7] st (S_in s k v a 0) ∧ a ≤ s.length ∧ s.length < 4294967281 ∧
  Q (.exit 2) ⟨[(0, .str s), (4, .own 0 k), (5, .int .i64 ((a : Int) + ((numAt (s.drop a)).2 : Nat))), (6, .int .i64 ((numAt (s.drop a)).1 : Nat)), (7, .int .i64 a)], [(0, .row 3 1 k (fun i => [.int .i64 (v i)]) false)], 1, []⟩
structure PIx where
  k : Nat
  a : Nat
  v : Nat → Int
def S_rp (s : List UInt8) (i : PIx) : St := ⟨[(0, .str s), (4, .own 0 i.k), (5, .int .i64 i.a)], [(0, .row 3 1 i.k (fun j => [.int .i64 (i.v j)]) false)], 1, []⟩
def L_rp (s : List UInt8) : LSpec := fun st Q => canonIs te 0 [0, 4, 5] (ownNil 4 3 1 st) (S_rp s ⟨0, 0, fun _ => 0⟩) ∧ s.length < 4294967281 ∧
  condP (parseOK s) (Q .ret ⟨[(2, .own 0 (words s).length), (3, .int .i64 0)], [(0, .row 3 1 (words s).length (fun i => [.int .i64 (wordV s i)]) false)], 1, []⟩) (Q .ret ⟨[(2, .nil), (3, .int .i64 60)], [], 0, []⟩)

theorem getD_drop (s : List UInt8) (a j : Nat) : (s.drop a).getD j 0 = s.getD (a + j) 0 := by simp [List.getD]

theorem numAt_two {s : List UInt8} {a : Nat} (h : a + 2 ≤ s.length) (h0 : dig (s.getD a 0) = true) (h1 : dig (s.getD (a + 1) 0) = true) : numAt (s.drop a) = (10 * ((s.getD a 0).toNat - 48) + ((s.getD (a + 1) 0).toNat - 48), 2) := by
  have e : s.drop a = s.getD a 0 :: s.getD (a + 1) 0 :: s.drop (a + 2) := by
    rw [List.drop_eq_getElem_cons (by omega), List.drop_eq_getElem_cons (by omega)]
    simp [List.getD, show a < s.length by omega, show a + 1 < s.length by omega]
  rw [e]
  simp only [numAt, h0, h1]
theorem numAt_one {s : List UInt8} {a : Nat} (h : a + 1 ≤ s.length) (h0 : dig (s.getD a 0) = true) (h1 : a + 1 = s.length ∨ dig (s.getD (a + 1) 0) = false) : numAt (s.drop a) = ((s.getD a 0).toNat - 48, 1) := by
  by_cases hl : a + 1 = s.length
  · have e : s.drop a = [s.getD a 0] := by
      rw [List.drop_eq_getElem_cons (by omega), List.drop_eq_nil_of_le (by omega)]
      simp [List.getD, show a < s.length by omega]
    rw [e]
    simp only [numAt, h0]
  · have e : s.drop a = s.getD a 0 :: s.getD (a + 1) 0 :: s.drop (a + 2) := by
      rw [List.drop_eq_getElem_cons (by omega), List.drop_eq_getElem_cons (by omega)]
      simp [List.getD, show a < s.length by omega, show a + 1 < s.length by omega]
    rw [e]
    simp only [numAt, h0, h1.resolve_left hl]
theorem numAt_none {s : List UInt8} {a : Nat} (h : s.length ≤ a ∨ dig (s.getD a 0) = false) : numAt (s.drop a) = (0, 0) := by
  by_cases hl : s.length ≤ a
  · rw [List.drop_eq_nil_of_le hl]; rfl
  · have h0 := h.resolve_left hl
    have e : s.drop a = s.getD a 0 :: s.drop (a + 1) := by
      rw [List.drop_eq_getElem_cons (by omega)]
      simp [List.getD, show a < s.length by omega]
    rw [e]
    cases s.drop (a + 1) <;> simp only [numAt, h0]
theorem dig_iff (b : UInt8) : dig b = true ↔ 48 ≤ b.toNat ∧ b.toNat ≤ 57 := by simp [dig]
theorem dig_no (b : UInt8) (h : ¬ (48 ≤ b.toNat ∧ b.toNat ≤ 57)) : dig b = false := by
  cases hd : dig b with
  | false => rfl
  | true => exact absurd ((dig_iff b).1 hd) h
theorem numAt_le (r : List UInt8) : (numAt r).2 ≤ r.length ∧ (numAt r).2 ≤ 2 ∧ (numAt r).1 ≤ 99 := by
  match r with
  | [] => exact ⟨by simp [numAt], by simp [numAt], by simp [numAt]⟩
  | [b] =>
    simp only [numAt]
    split
    · rename_i h; have := (dig_iff b).1 h; exact ⟨by simp, by simp, by simp; omega⟩
    · exact ⟨by simp, by simp, by simp⟩
  | b :: c :: l =>
    simp only [numAt]
    split
    · rename_i h
      have h1 := (dig_iff b).1 h
      split
      · rename_i h'
        have h2 := (dig_iff c).1 h'
        exact ⟨by simp, by simp, by simp; omega⟩
      · exact ⟨by simp, by simp, by simp; omega⟩
    · exact ⟨by simp, by simp, by simp⟩

theorem numAt_dec : ∀ n : Nat, n < 100 → 1 ≤ n → (numAt (decF n) = (n, (decF n).length) ∧ numAt (decF n ++ [46]) = (n, (decF n).length)) := by decide +kernel

end Go.Eng
/- The reference of the codes: what it takes is what the parse takes. Plain. -/
namespace Go.Eng

def tailF : List Int → List UInt8
  | [] => []
  | p :: ps => 46 :: (decF p ++ tailF ps)
def headF (k : Nat) (p : Int) : List UInt8 := match k with
  | 0 => fmtHead p
  | _ + 1 => decF p
def okP (p : Int) : Prop := 1 ≤ p ∧ p ≤ 99

theorem decF_one {b : UInt8} (h : dig b = true) (h1 : 1 ≤ b.toNat - 48) : decF ((b.toNat - 48 : Nat) : Int) = [b] := by
  have hb := (dig_iff b).1 h
  rw [decF_lo (by omega) (by omega)]
  congr 1
  apply UInt8.toNat_inj.1
  simp
  omega
theorem decF_two {b c : UInt8} (h : dig b = true) (hc : dig c = true) (h1 : b.toNat ≠ 48) : decF ((10 * (b.toNat - 48) + (c.toNat - 48) : Nat) : Int) = [b, c] := by
  have hb := (dig_iff b).1 h
  have hc' := (dig_iff c).1 hc
  rw [decF_hi (by omega) (by omega)]
  congr 1
  · apply UInt8.toNat_inj.1
    simp
    omega
  · congr 1
    apply UInt8.toNat_inj.1
    simp
    omega

theorem numAt_head {k : Nat} {r : List UInt8} (h : noPart k r = false) : okP ((numAt r).1 : Int) ∧ k ≠ 5 ∧ r = headF k ((numAt r).1 : Int) ++ r.drop (numAt r).2 := by
  have h' : ¬ (numAt r).2 = 0 ∧ ¬ (numAt r).1 = 0 ∧ (k = 0 → (numAt r).2 = 2) ∧ (0 < k → ¬ (r.getD 0 0).toNat = 48) ∧ ¬ k = 5 := by
    unfold noPart at h
    simp only [Bool.or_eq_false_iff, decide_eq_false_iff_not, Bool.and_eq_false_iff, Bool.not_eq_false', decide_eq_true_iff] at h
    obtain ⟨⟨⟨⟨a, b⟩, c⟩, d⟩, e⟩ := h
    exact ⟨a, b, fun hk => c.resolve_left (fun n => n hk), fun hk => d.resolve_left (fun n => n hk), e⟩
  clear h
  obtain ⟨h2, h1, hk0, hk1, hk5⟩ := h'
  have hle := numAt_le r
  refine ⟨⟨by omega, by omega⟩, hk5, ?_⟩
  match r with
  | [] => exact absurd rfl h2
  | [b] =>
    cases hb : dig b with
    | false => exact absurd (by simp only [numAt, hb]) h2
    | true =>
      have e : numAt [b] = (b.toNat - 48, 1) := by simp only [numAt, hb]
      rw [e] at h1 hk0 ⊢
      match k with
      | 0 => exact absurd (hk0 rfl) (by simp)
      | k + 1 =>
        have e1 := decF_one hb (Nat.pos_of_ne_zero h1)
        simp only [headF, e1]; rfl
  | b :: c :: l =>
    cases hb : dig b with
    | false => exact absurd (by simp only [numAt, hb]) h2
    | true =>
      have hb' := (dig_iff b).1 hb
      cases hc : dig c with
      | false =>
        have e : numAt (b :: c :: l) = (b.toNat - 48, 1) := by simp only [numAt, hb, hc]
        rw [e] at h1 hk0 ⊢
        match k with
        | 0 => exact absurd (hk0 rfl) (by simp)
        | k + 1 =>
          have e1 := decF_one hb (Nat.pos_of_ne_zero h1)
          simp only [headF, e1]; rfl
      | true =>
        have hc' := (dig_iff c).1 hc
        have e : numAt (b :: c :: l) = (10 * (b.toNat - 48) + (c.toNat - 48), 2) := by simp only [numAt, hb, hc]
        rw [e] at h1 ⊢
        match k with
        | k + 1 =>
          have h48 : ¬ b.toNat = 48 := hk1 (by omega)
          simp only [headF, decF_two hb hc h48]; rfl
        | 0 =>
          by_cases h48 : b.toNat = 48
          · have eb : b = 48 := UInt8.toNat_inj.1 h48
            have en : 10 * (b.toNat - 48) + (c.toNat - 48) = c.toNat - 48 := by omega
            simp only [en] at h1 ⊢
            have e1 := decF_one hc (Nat.pos_of_ne_zero h1)
            have e2 : fmtHead ((c.toNat - 48 : Nat) : Int) = [48, c] := by
              unfold fmtHead
              rw [decide_eq_true (show ((c.toNat - 48 : Nat) : Int) < 10 by omega), e1]
            simp only [headF, e2, eb]; rfl
          · have e1 := decF_two hb hc h48
            have e2 : fmtHead ((10 * (b.toNat - 48) + (c.toNat - 48) : Nat) : Int) = [b, c] := by
              unfold fmtHead
              rw [decide_eq_false (show ¬ ((10 * (b.toNat - 48) + (c.toNat - 48) : Nat) : Int) < 10 by omega), e1]
            simp only [headF, e2]; rfl

theorem headF_pos {k : Nat} (hk : 0 < k) (p : Int) : headF k p = decF p := by
  cases k with
  | zero => omega
  | succ k => rfl

theorem pref_sound : ∀ fuel k r ps, k ≤ 5 → pref fuel k r = some ps → ∃ p l, ps = p :: l ∧ r = headF k p ++ tailF l ∧ (∀ q ∈ ps, okP q) ∧ ps.length + k ≤ 5 := by
  intro fuel
  induction fuel with
  | zero => intro k r ps _ h; exact absurd h (by simp [pref])
  | succ fuel ih =>
    intro k r ps hk h
    unfold pref at h
    cases hn : noPart k r with
    | true => rw [hn] at h; exact absurd h (by simp)
    | false =>
      rw [hn] at h
      obtain ⟨ho, h5, hr⟩ := numAt_head hn
      cases hd : r.drop (numAt r).2 with
      | nil =>
        simp only [hd] at h
        obtain rfl := Option.some.inj h
        refine ⟨_, [], rfl, ?_, fun q hq => ?_, ?_⟩
        · rw [hd] at hr; exact hr
        · obtain rfl := List.mem_singleton.1 hq; exact ho
        · show 0 + 1 + k ≤ 5; omega
      | cons b r' =>
        simp only [hd] at h
        by_cases hb : b.toNat = 46
        · rw [decide_eq_true hb] at h
          cases hp : pref fuel (k + 1) r' with
          | none => simp only [hp] at h; exact absurd h (by simp)
          | some l =>
            simp only [hp] at h
            obtain rfl := Option.some.inj h
            obtain ⟨p, l', rfl, hr', hok, hlen⟩ := ih (k + 1) r' l (by omega) hp
            rw [headF_pos (by omega)] at hr'
            refine ⟨_, p :: l', rfl, ?_, fun q hq => ?_, ?_⟩
            · rw [hd, hr'] at hr
              have eb : b = 46 := UInt8.toNat_inj.1 hb
              rw [eb] at hr
              exact hr
            · rcases List.mem_cons.1 hq with rfl | hq
              · exact ho
              · exact hok q hq
            · simp only [List.length_cons] at hlen ⊢; omega
        · rw [decide_eq_false hb] at h; exact absurd h (by simp)

theorem numAt_two_only (b c : UInt8) (l l' : List UInt8) : numAt (b :: c :: l) = numAt (b :: c :: l') := rfl
theorem head_all : ∀ n : Nat, n < 100 → 1 ≤ n → ∀ k : Fin 2, numAt (headF k.val n) = (n, (headF k.val n).length) ∧ numAt (headF k.val n ++ [46]) = (n, (headF k.val n).length) ∧ (headF k.val n).isEmpty = false ∧ (k.val = 0 → (headF k.val n).length = 2) ∧ (0 < k.val → ¬ ((headF k.val n).getD 0 0).toNat = 48) := by decide +kernel
theorem head_ok {p : Int} (h : okP p) (k : Nat) (t : List UInt8) : numAt (headF k p ++ 46 :: t) = (p.toNat, (headF k p).length) ∧ numAt (headF k p) = (p.toNat, (headF k p).length) ∧ 1 ≤ (headF k p).length ∧ (k = 0 → (headF k p).length = 2) ∧ (0 < k → ¬ ((headF k p).getD 0 0).toNat = 48) := by
  obtain ⟨h1, h2⟩ := h
  obtain ⟨n, rfl⟩ := Int.eq_ofNat_of_zero_le (show 0 ≤ p by omega)
  have key : ∀ i : Fin 2, headF k (n : Int) = headF i.val n → (k = 0 ↔ i.val = 0) → numAt (headF k n ++ 46 :: t) = ((n : Int).toNat, (headF k n).length) ∧ numAt (headF k n) = ((n : Int).toNat, (headF k n).length) ∧ 1 ≤ (headF k n).length ∧ (k = 0 → (headF k n).length = 2) ∧ (0 < k → ¬ ((headF k n).getD 0 0).toNat = 48) := by
    intro i hi hz
    obtain ⟨a, b, c, d, e⟩ := head_all n (by omega) (by omega) i
    rw [hi]
    refine ⟨?_, a, ?_, fun h0 => d (hz.1 h0), fun h0 => e (by omega)⟩
    · rw [show ((n : Int).toNat, (headF i.val n).length) = (n, (headF i.val n).length) from rfl, ← b]
      cases hw : headF i.val n with
      | nil => rw [hw] at c; cases c
      | cons x w =>
        cases w with
        | nil => rfl
        | cons y w => rfl
    · cases hw : headF i.val n with
      | nil => rw [hw] at c; cases c
      | cons x w => simp
  cases k with
  | zero => exact key ⟨0, by omega⟩ rfl (by simp)
  | succ k => exact key ⟨1, by omega⟩ rfl (by simp)

theorem pref_complete : ∀ l p fuel k, (∀ q ∈ p :: l, okP q) → l.length + 1 + k ≤ 5 → l.length + 1 ≤ fuel → pref fuel k (headF k p ++ tailF l) = some (p :: l) := by
  intro l
  induction l with
  | nil =>
    intro p fuel k hp hk hf
    have ho := hp p (by simp)
    obtain ⟨f, rfl⟩ : ∃ f, fuel = f + 1 := ⟨fuel - 1, by simp at hf; omega⟩
    obtain ⟨_, hb, hc, hd, he⟩ := head_ok ho k []
    have hn : noPart k (headF k p) = false := by
      unfold noPart
      rw [hb]
      obtain ⟨h1, h2⟩ := ho
      simp only [Bool.or_eq_false_iff, decide_eq_false_iff_not, Bool.and_eq_false_iff, Bool.not_eq_false', decide_eq_true_iff]
      refine ⟨⟨⟨⟨by omega, by omega⟩, ?_⟩, ?_⟩, by simp at hk; omega⟩
      · by_cases h0 : k = 0
        · exact .inr (hd h0)
        · exact .inl h0
      · by_cases h0 : 0 < k
        · exact .inr (he h0)
        · exact .inl h0
    rw [show headF k p ++ tailF [] = headF k p from List.append_nil _]
    unfold pref
    rw [hn, hb]
    simp only [List.drop_length]
    have : ((p.toNat : Nat) : Int) = p := by obtain ⟨h1, _⟩ := ho; omega
    rw [this]
  | cons q l ih =>
    intro p fuel k hp hk hf
    have ho := hp p (by simp)
    obtain ⟨f, rfl⟩ : ∃ f, fuel = f + 1 := ⟨fuel - 1, by simp at hf; omega⟩
    have ht : headF k p ++ tailF (q :: l) = headF k p ++ 46 :: (decF q ++ tailF l) := rfl
    obtain ⟨ha, _, hc, hd, he⟩ := head_ok ho k (decF q ++ tailF l)
    have hg : (headF k p ++ 46 :: (decF q ++ tailF l)).getD 0 0 = (headF k p).getD 0 0 := by
      cases hw : headF k p with
      | nil => rw [hw] at hc; simp at hc
      | cons x w => rfl
    have hn : noPart k (headF k p ++ 46 :: (decF q ++ tailF l)) = false := by
      unfold noPart
      rw [ha, hg]
      obtain ⟨h1, h2⟩ := ho
      simp only [Bool.or_eq_false_iff, decide_eq_false_iff_not, Bool.and_eq_false_iff, Bool.not_eq_false', decide_eq_true_iff]
      refine ⟨⟨⟨⟨by omega, by omega⟩, ?_⟩, ?_⟩, by simp at hk; omega⟩
      · by_cases h0 : k = 0
        · exact .inr (hd h0)
        · exact .inl h0
      · by_cases h0 : 0 < k
        · exact .inr (he h0)
        · exact .inl h0
    rw [ht]
    unfold pref
    rw [hn, ha]
    simp only [List.drop_left]
    have e1 : decide ((46 : UInt8).toNat = 46) = true := rfl
    rw [e1]
    have hi := ih q f (k + 1) (fun x hx => hp x (List.mem_cons_of_mem _ hx)) (by simp at hk ⊢; omega) (by simp at hf ⊢; omega)
    rw [headF_pos (by omega)] at hi
    simp only [hi]
    have : ((p.toNat : Nat) : Int) = p := by obtain ⟨h1, _⟩ := ho; omega
    rw [this]

theorem index_skip : ∀ (w r : List UInt8), (46 : UInt8) ∉ w → Lib.index (w ++ 46 :: r) [46] = (w.length : Nat)
  | [], r, _ => by
    show (if ([46] : List UInt8).isPrefixOf (46 :: r) then (0 : Int) else _) = _
    rfl
  | b :: w, r, h => by
    have ih := index_skip w r (fun hx => h (List.mem_cons_of_mem _ hx))
    have hb : (46 : UInt8) ≠ b := fun e => h (e ▸ List.mem_cons_self ..)
    show (if ([46] : List UInt8).isPrefixOf (b :: (w ++ 46 :: r)) then (0 : Int) else if Lib.index (w ++ 46 :: r) [46] == -1 then -1 else Lib.index (w ++ 46 :: r) [46] + 1) = _
    have e : ([46] : List UInt8).isPrefixOf (b :: (w ++ 46 :: r)) = false := by simp [List.isPrefixOf, hb]
    rw [e, ih]
    have e2 : (((w.length : Nat) : Int) == -1) = false := by simp
    rw [e2]
    simp
theorem index_none : ∀ (w : List UInt8), (46 : UInt8) ∉ w → Lib.index w [46] = -1
  | [], _ => rfl
  | b :: w, h => by
    have ih := index_none w (fun hx => h (List.mem_cons_of_mem _ hx))
    have hb : (46 : UInt8) ≠ b := fun e => h (e ▸ List.mem_cons_self ..)
    show (if ([46] : List UInt8).isPrefixOf (b :: w) then (0 : Int) else if Lib.index w [46] == -1 then -1 else Lib.index w [46] + 1) = _
    have e : ([46] : List UInt8).isPrefixOf (b :: w) = false := by simp [List.isPrefixOf, hb]
    rw [e, ih]
    rfl
theorem dec_no46 : ∀ n : Nat, n < 100 → (46 : UInt8) ∉ decF n ∧ (46 : UInt8) ∉ fmtHead n ∧ atoiZ (decF n) = n ∧ atoiZ (fmtHead n) = n := by decide +kernel
theorem dec_ok {p : Int} (h : okP p) : (46 : UInt8) ∉ decF p ∧ (46 : UInt8) ∉ fmtHead p ∧ atoiZ (decF p) = p ∧ atoiZ (fmtHead p) = p := by
  obtain ⟨h1, h2⟩ := h
  obtain ⟨n, rfl⟩ := Int.eq_ofNat_of_zero_le (show 0 ≤ p by omega)
  exact dec_no46 n (by omega)
theorem words_tail : ∀ l (w : List UInt8), (46 : UInt8) ∉ w → (∀ q ∈ l, okP q) → words (w ++ tailF l) = w :: l.map decF
  | [], w, hw, _ => by
    show words (w ++ []) = [w]
    rw [List.append_nil]
    exact words_miss (index_none w hw)
  | q :: l, w, hw, hl => by
    show words (w ++ 46 :: (decF q ++ tailF l)) = _
    have ih := words_tail l (decF q) (dec_ok (hl q (by simp))).1 (fun x hx => hl x (List.mem_cons_of_mem _ hx))
    rw [words_hit (index_skip w _ hw)]
    have e1 : (w ++ 46 :: (decF q ++ tailF l)).take w.length = w := by simp
    have e2 : (w ++ 46 :: (decF q ++ tailF l)).drop (w.length + 1) = decF q ++ tailF l := by
      rw [List.drop_append]; simp
    rw [e1, e2, ih]; rfl

theorem tailF_snoc : ∀ (l : List Int) (x : Int), tailF (l ++ [x]) = tailF l ++ (46 :: decF x)
  | [], x => by show 46 :: (decF x ++ []) = _; rw [List.append_nil]; rfl
  | q :: l, x => by
    show 46 :: (decF q ++ tailF (l ++ [x])) = 46 :: (decF q ++ tailF l) ++ _
    rw [tailF_snoc l x]
    simp
theorem fmtRest_tail (v : Nat → Int) : ∀ k, fmtRest v k = tailF ((List.range k).map fun i => v (i + 1))
  | 0 => rfl
  | k + 1 => by
    rw [List.range_succ, List.map_append, show List.map (fun i => v (i + 1)) [k] = [v (k + 1)] from rfl, tailF_snoc, ← fmtRest_tail v k]
    rfl
theorem le_minV (v : Nat → Int) (a : Int) : ∀ k, (∀ i, i ≤ k → a ≤ v i) → a ≤ minV v k
  | 0, h => h 0 (Nat.le_refl _)
  | k + 1, h => by
    have ih := le_minV v a k (fun i hi => h i (by omega))
    have h1 := h (k + 1) (Nat.le_refl _)
    simp only [minV]
    first
      | omega
      | (cases hd : decide (v (k + 1) < minV v k) <;> simp only [cond_true, cond_false] <;> assumption)
      | (split <;> assumption)
      | fail
theorem maxV_le (v : Nat → Int) (a : Int) : ∀ k, (∀ i, i ≤ k → v i ≤ a) → maxV v k ≤ a
  | 0, h => h 0 (Nat.le_refl _)
  | k + 1, h => by
    have ih := maxV_le v a k (fun i hi => h i (by omega))
    have h1 := h (k + 1) (Nat.le_refl _)
    simp only [maxV]
    first
      | omega
      | (cases hd : decide (maxV v k < v (k + 1)) <;> simp only [cond_true, cond_false] <;> assumption)
      | (split <;> assumption)
      | fail
theorem list_range (l : List Int) : (List.range l.length).map (fun i => l.getD i 0) = l := by
  apply List.ext_getElem
  · simp
  · intro i h1 h2
    simp [List.getD, h2]

theorem parse_pref (s : List UInt8) : match pref 6 0 s with
    | some ps => parseOK s = true ∧ (words s).length = ps.length ∧ ∀ i, i < ps.length → wordV s i = ps.getD i 0
    | none => parseOK s = false := by
  cases hp : pref 6 0 s with
  | some ps =>
    obtain ⟨p, l, rfl, hs, hok, hlen⟩ := pref_sound 6 0 s ps (by omega) hp
    have hs : s = fmtHead p ++ tailF l := hs
    have hw : words s = fmtHead p :: l.map decF := by rw [hs]; exact words_tail l _ (dec_ok (hok p (by simp))).2.1 (fun q hq => hok q (List.mem_cons_of_mem _ hq))
    have hl : (words s).length = (p :: l).length := by rw [hw]; simp
    have hv : ∀ i, i < (p :: l).length → wordV s i = (p :: l).getD i 0 := by
      intro i hi
      unfold wordV
      rw [hw]
      cases i with
      | zero => exact (dec_ok (hok p (by simp))).2.2.2
      | succ i =>
        have hi' : i < l.length := by simpa using hi
        have e : (fmtHead p :: l.map decF).getD (i + 1) [] = decF l[i] := by simp [List.getD, hi']
        have e' : (p :: l).getD (i + 1) 0 = l[i] := by simp [List.getD, hi']
        rw [e, e']
        exact (dec_ok (hok _ (List.mem_cons_of_mem _ (List.getElem_mem hi')))).2.2.1
    refine ⟨?_, hl, hv⟩
    have hn : (words s).length - 1 = l.length := by rw [hl]; simp
    have hat : ∀ i, i ≤ l.length → okP (wordV s i) := by
      intro i hi
      have hi' : i < (p :: l).length := by simp; omega
      rw [hv i hi', show (p :: l).getD i 0 = (p :: l)[i] by rw [List.getD, List.getElem?_eq_getElem hi']; rfl]
      exact hok _ (List.getElem_mem hi')
    unfold parseOK
    rw [Bool.and_eq_true]
    refine ⟨?_, ?_⟩
    · unfold fmtOK
      rw [hn, hl]
      simp only [Bool.and_eq_true, decide_eq_true_iff]
      refine ⟨⟨⟨by simp, by simp at hlen ⊢; omega⟩, le_minV _ _ _ fun i hi => (hat i hi).1⟩, maxV_le _ _ _ fun i hi => (hat i hi).2⟩
    · rw [decide_eq_true_iff]
      unfold fmtZ
      rw [hn, fmtRest_tail]
      have e1 : wordV s 0 = p := hv 0 (by simp)
      have e2 : (List.range l.length).map (fun i => wordV s (i + 1)) = l := by
        conv => rhs; rw [← list_range l]
        apply List.map_congr_left
        intro i hi
        have hi := List.mem_range.1 hi
        rw [hv (i + 1) (by simp; omega)]
        rfl
      rw [e1, e2]
      exact hs.symm
  | none =>
    cases hc : parseOK s with
    | false => rfl
    | true =>
      unfold parseOK at hc
      rw [Bool.and_eq_true, decide_eq_true_iff] at hc
      obtain ⟨h1, h2⟩ := hc
      have hn := fmtOK_n h1
      have hat := fmtOK_at h1
      unfold fmtZ at h2
      rw [fmtRest_tail] at h2
      have := pref_complete ((List.range ((words s).length - 1)).map fun i => wordV s (i + 1)) (wordV s 0) 6 0 (by
        intro q hq
        rcases List.mem_cons.1 hq with rfl | hq
        · exact hat 0 (by omega)
        · obtain ⟨i, hi, rfl⟩ := List.mem_map.1 hq
          have hi := List.mem_range.1 hi
          exact hat (i + 1) (by omega)) (by simp; omega) (by simp; omega)
      rw [show headF 0 (wordV s 0) = fmtHead (wordV s 0) from rfl, h2, hp] at this
      exact absurd this (by simp)

end Go.Eng
