/- Lemmas that the tied card of ScannerValid is proved by. -/
import Derived.Orders
import Derived.Tactics
import Derived.Laws.AppendOwn
import Derived.Laws.Rows
import Derived.Laws.Entries
import Derived.Deep.LoopGhost
import Derived.Laws.Strings
import Derived.Lib.Strings
/- The engine, part 1: abstract values, abstract objects, and what it means that they stand for the model's values and memory. -/
namespace Go.Eng

inductive AV where
  | any
  | bool (b : Bool)
  | int (k : IntKind) (n : Int)
  | str (s : List UInt8)
  | nilptr
  | ptr (r : Nat) (off : Nat)
  | eptr (r : Nat) (sz i off : Nat)
  | vptr (g : List AV)
  | nil
  | empty
  | view (sz n : Nat) (f : Nat → List AV)
  | own (r : Nat) (n : Nat)
  | sub (r sz off n : Nat)
  | nilmap
  | map (r : Nat)
  | func (f : FuncId) (cap : List AV)
  | nilfunc
  | nilIface
  | iface (t : TypeId) (v : AV)
  | agg (cs : List AV)
  | tuple (vs : List AV)
  deriving Inhabited

/-- Where an abstract object lies: a block, with a slice's capacity; or nowhere (a nil slice). -/
inductive Hd where
  | blk (b cap : Nat)
  | nil

def nob : Nat → Option Hd := fun _ => none

/-- The value stands for the abstract value; what lies in read-only memory refers to nothing of our own. -/
inductive V (w : World) (M : Nat → Prop) : (Nat → Option Hd) → Value → AV → Prop where
  | any {bs : Nat → Option Hd} {v} : V w M bs v .any
  | bool {bs : Nat → Option Hd} {b} : V w M bs (.bool b) (.bool b)
  | int {bs : Nat → Option Hd} {k n} : V w M bs (.int k n) (.int k n)
  | str {bs : Nat → Option Hd} {s : ByteArray} {l : List UInt8} (h : s.data.toList = l) : V w M bs (.string s) (.str l)
  | nilptr {bs : Nat → Option Hd} : V w M bs (.pointer none) .nilptr
  | ptr {bs : Nat → Option Hd} {r off b c} (h : bs r = some (.blk b c)) : V w M bs (.pointer (some ⟨b, off, none⟩)) (.ptr r off)
  | eptr {bs : Nat → Option Hd} {r sz i off b c} (h : bs r = some (.blk b c)) : V w M bs (.pointer (some ⟨b, i * sz + off, none⟩)) (.eptr r sz i off)
  | vptr {bs : Nat → Option Hd} {ad : Addr} {g : List AV} (cv : Nat → Value) (hM : ¬ M ad.block) (hb : ad.block < w.heap.size) (hc : ∀ j, j < g.length → w.cell? (ad.add j) = some (cv j))
      (h1 : ∀ j, j < g.length → (cv j).oneCell' = true) (hv : ∀ j u, g[j]? = some u → V w M nob (cv j) u) : V w M bs (.pointer (some ad)) (.vptr g)
  | nil {bs : Nat → Option Hd} : V w M bs (.slice none 0 0) .nil
  | empty {bs : Nat → Option Hd} {A} : V w M bs (.slice A 0 0) .empty
  | view {bs : Nat → Option Hd} {A : Option Addr} {n c sz : Nat} {f : Nat → List AV} (ad : Addr) (cv : Nat → Nat → Value) (hn : n ≤ c) (hcm : c ≤ maxLen)
      (hA : 0 < n → A = some ad ∧ ¬ M ad.block ∧ ad.block < w.heap.size) (hl : ∀ i, i < n → (f i).length = sz)
      (hc : ∀ i, i < n → ∀ j, j < sz → w.cell? (ad.add (i * sz + j)) = some (cv i j)) (h1 : ∀ i, i < n → ∀ j, j < sz → (cv i j).oneCell' = true)
      (hv : ∀ i, i < n → ∀ j u, (f i)[j]? = some u → V w M nob (cv i j) u) : V w M bs (.slice A n c) (.view sz n f)
  | own {bs : Nat → Option Hd} {r n b c} (h : bs r = some (.blk b c)) (hn : n ≤ c) (hcm : c ≤ maxLen) : V w M bs (.slice (some ⟨b, 0, none⟩) n c) (.own r n)
  | ownnil {bs : Nat → Option Hd} {r n A} (h : bs r = some .nil) (hn : n = 0) : V w M bs (.slice A 0 0) (.own r n)
  | sub {bs : Nat → Option Hd} {r sz off n b c A} (h : bs r = some (.blk b c)) (hn : off + n ≤ c) (hcm : c ≤ maxLen) (hA : 0 < n → A = some ⟨b, off * sz, none⟩) : V w M bs (.slice A n (c - off)) (.sub r sz off n)
  | subnil {bs : Nat → Option Hd} {r sz off n A} (h : bs r = some .nil) (hn : n = 0) (ho : off = 0) : V w M bs (.slice A 0 0) (.sub r sz off n)
  | nilmap {bs : Nat → Option Hd} : V w M bs (.map none) .nilmap
  | map {bs : Nat → Option Hd} {r b c} (h : bs r = some (.blk b c)) : V w M bs (.map (some b)) (.map r)
  | func {bs : Nat → Option Hd} {f caps l} (hl : caps.size = l.length) (hv : ∀ (j : Nat) v u, caps[j]? = some v → l[j]? = some u → V w M bs v u) : V w M bs (.func (.func f) #[] caps) (.func f l)
  | nilfunc {bs : Nat → Option Hd} : V w M bs .nilFunc .nilfunc
  | nilIface {bs : Nat → Option Hd} : V w M bs .nilIface .nilIface
  | iface {bs : Nat → Option Hd} {t v u} (h : V w M bs v u) : V w M bs (.iface t v) (.iface t u)
  | agg {bs : Nat → Option Hd} {vs cs} (hl : vs.size = cs.length) (h1 : ∀ (j : Nat) (v : Value), vs[j]? = some v → v.oneCell' = true) (hv : ∀ (j : Nat) v u, vs[j]? = some v → cs[j]? = some u → V w M bs v u) : V w M bs (.agg vs) (.agg cs)
  | tuple {bs : Nat → Option Hd} {vs cs} (hl : vs.size = cs.length) (hv : ∀ (j : Nat) v u, vs[j]? = some v → cs[j]? = some u → V w M bs v u) : V w M bs (.tuple vs) (.tuple cs)

/-- What V needs of a step from one world to another. -/
structure Step (w : World) (M : Nat → Prop) (bs : Nat → Option Hd) (w' : World) (M' : Nat → Prop) (bs' : Nat → Option Hd) : Prop where
  bs : ∀ r h, bs r = some h → bs' r = some h
  far : ∀ b, b < w.heap.size → ¬ M b → ¬ M' b
  heap : ∀ b, b < w.heap.size → ¬ M b → w'.heap[b]? = w.heap[b]?
  size : w.heap.size ≤ w'.heap.size

theorem Step.trans {w w1 w2 : World} {M M1 M2 : Nat → Prop} {bs bs1 bs2 : Nat → Option Hd} (h : Step w M bs w1 M1 bs1) (k : Step w1 M1 bs1 w2 M2 bs2) : Step w M bs w2 M2 bs2 :=
  ⟨fun r x hx => k.bs r x (h.bs r x hx), fun b hb hM => k.far b (Nat.lt_of_lt_of_le hb h.size) (h.far b hb hM), fun b hb hM => (k.heap b (Nat.lt_of_lt_of_le hb h.size) (h.far b hb hM)).trans (h.heap b hb hM), Nat.le_trans h.size k.size⟩
theorem Step.refl (w : World) (M : Nat → Prop) (bs : Nat → Option Hd) : Step w M bs w M bs := ⟨fun _ _ h => h, fun _ _ h => h, fun _ _ _ => rfl, Nat.le_refl _⟩

theorem block_add (a : Addr) (n : Nat) : (a.add n).block = a.block := by unfold Addr.add; split <;> rfl

theorem cell_same {w w' : World} {a : Addr} (h : w'.heap[a.block]? = w.heap[a.block]?) : w'.cell? a = w.cell? a := by simp [World.cell?, h]

theorem V.step_ {w w' : World} {M M' : Nat → Prop} (far : ∀ b, b < w.heap.size → ¬ M b → ¬ M' b) (heap : ∀ b, b < w.heap.size → ¬ M b → w'.heap[b]? = w.heap[b]?) (size : w.heap.size ≤ w'.heap.size)
    {bs : Nat → Option Hd} {v : Value} {u : AV} (h : V w M bs v u) : ∀ bs' : Nat → Option Hd, (∀ r x, bs r = some x → bs' r = some x) → V w' M' bs' v u := by
  induction h with
  | any => exact fun _ _ => .any
  | bool => exact fun _ _ => .bool
  | int => exact fun _ _ => .int
  | str h => exact fun _ _ => .str h
  | nilptr => exact fun _ _ => .nilptr
  | ptr h => exact fun _ s => .ptr (s _ _ h)
  | eptr h => exact fun _ s => .eptr (s _ _ h)
  | @vptr bs ad g cv hM hb hc h1 hv ih =>
    exact fun _ s => .vptr cv (far _ hb hM) (Nat.lt_of_lt_of_le hb size) (fun j hj => (cell_same (by rw [block_add]; exact heap _ hb hM)).trans (hc j hj)) h1 fun j u hu => ih j u hu nob fun _ _ hh => hh
  | nil => exact fun _ _ => .nil
  | empty => exact fun _ _ => .empty
  | @view bs A n c sz f ad cv hn hcm hA hl hc h1 hv ih =>
    refine fun _ s => .view ad cv hn hcm (fun h0 => ?_) hl (fun i hi j hj => ?_) h1 fun i hi j u hu => ih i hi j u hu nob fun _ _ hh => hh
    · obtain ⟨e, hM, hb⟩ := hA h0
      exact ⟨e, far _ hb hM, Nat.lt_of_lt_of_le hb size⟩
    · obtain ⟨e, hM, hb⟩ := hA (by omega)
      exact (cell_same (by rw [block_add]; exact heap _ hb hM)).trans (hc i hi j hj)
  | own h hn hcm => exact fun _ s => .own (s _ _ h) hn hcm
  | ownnil h hn => exact fun _ s => .ownnil (s _ _ h) hn
  | sub h hn hcm hA => exact fun _ s => .sub (s _ _ h) hn hcm hA
  | subnil h hn ho => exact fun _ s => .subnil (s _ _ h) hn ho
  | nilmap => exact fun _ _ => .nilmap
  | map h => exact fun _ s => .map (s _ _ h)
  | func hl hv ih => exact fun _ s => .func hl fun j v u h1 h2 => ih j v u h1 h2 _ s
  | nilfunc => exact fun _ _ => .nilfunc
  | nilIface => exact fun _ _ => .nilIface
  | iface h ih => exact fun _ s => .iface (ih _ s)
  | agg hl h1 hv ih => exact fun _ s => .agg hl h1 fun j v u h1 h2 => ih j v u h1 h2 _ s
  | tuple hl hv ih => exact fun _ s => .tuple hl fun j v u h1 h2 => ih j v u h1 h2 _ s

theorem V.step {w w' : World} {M M' : Nat → Prop} {bs bs' : Nat → Option Hd} (s : Step w M bs w' M' bs') {v : Value} {u : AV} (h : V w M bs v u) : V w' M' bs' v u := h.step_ s.far s.heap s.size bs' s.bs

theorem V.lift {w : World} {M : Nat → Prop} {bs : Nat → Option Hd} {v : Value} {u : AV} (h : V w M nob v u) : V w M bs v u := h.step_ (fun _ _ h => h) (fun _ _ _ => rfl) (Nat.le_refl _) bs fun r x hx => by simp [nob] at hx

inductive AObj where
  | cells (cs : List AV) (t : TypeId)
  | row (t : TypeId) (sz n : Nat) (f : Nat → List AV) (fr : Bool)
  | amap (es : List (AV × AV))
  | siter (s : List UInt8) (pos : Nat)
  | miter (m n0 : Nat) (left : List Nat)
  | dead
  deriving Inhabited

def AObj.mut : AObj → Bool
  | .cells _ _ => true
  | .row _ _ _ _ fr => !fr
  | .amap _ => true
  | .siter _ _ => true
  | .miter _ _ _ => true
  | .dead => false

/-- A map's entries, in the model, read as pairs. -/
def EntOK (w : World) (M : Nat → Prop) (bs : Nat → Option Hd) (ents : Array MapEntry) (es : List (AV × AV)) : Prop :=
  ents.size = es.length ∧ ∀ (j : Nat) (e : MapEntry) (p : AV × AV), ents[j]? = some e → es[j]? = some p → V w M bs e.key p.1 ∧ V w M bs e.val p.2

def BornOK (ents : Array MapEntry) (clock : Nat) : Prop :=
  clock = ents.size ∧ ∀ (i : Nat) (e : MapEntry), ents[i]? = some e → e.born = i

def ObjOK (w : World) (M : Nat → Prop) (bs : Nat → Option Hd) (r : Nat) : AObj → Prop
  | .cells cs t => ∃ b c vs, bs r = some (.blk b c) ∧ w.heap[b]? = some (.cells vs t (0, 0)) ∧ vs.size = cs.length ∧ (∀ (j : Nat) (v : Value), vs[j]? = some v → v.oneCell' = true) ∧
      ∀ (j : Nat) v u, vs[j]? = some v → cs[j]? = some u → V w M bs v u
  | .row t sz n f _ => (bs r = some .nil ∧ n = 0) ∨
      ∃ b c vs, bs r = some (.blk b c) ∧ w.heap[b]? = some (.cells vs t (0, 0)) ∧ n ≤ c ∧ c ≤ maxLen ∧ vs.size = c * sz ∧ (∀ i, i < n → (f i).length = sz) ∧
        (∀ i, i < n → ∀ j, j < sz → ∀ v : Value, vs[i * sz + j]? = some v → v.oneCell' = true) ∧ ∀ i, i < n → ∀ (j : Nat) v u, j < sz → vs[i * sz + j]? = some v → (f i)[j]? = some u → V w M bs v u
  | .amap es => ∃ b c ents clock, bs r = some (.blk b c) ∧ w.heap[b]? = some (.map ents clock) ∧ EntOK w M bs ents es ∧ BornOK ents clock
  | .siter s pos => ∃ b c bytes, bs r = some (.blk b c) ∧ w.heap[b]? = some (.stringIter bytes pos) ∧ bytes.data.toList = s
  | .miter m n0 left => ∃ b c bm cm seen, bs r = some (.blk b c) ∧ bs m = some (.blk bm cm) ∧ w.heap[b]? = some (.mapIter (some bm) n0 seen n0) ∧
      (left.drop 2).Nodup ∧ (∀ i, i ∈ left.drop 2 → i < n0) ∧ (∀ i, i < n0 → (i ∈ left.drop 2 ↔ seen.contains i = false)) ∧ ∀ i, left[1]? = some i → i < n0 → seen.back? = some i
  | .dead => True

/-- The program, what its globals hold, and the blocks below which nothing of ours is ever written. -/
structure Ctx where
  P : Program
  gsz : Nat
  laid : World → Prop
  mixed : P.follows .mixedOrders = true
  keep : ∀ w w' : World, (∀ b, b < gsz → w'.heap[b]? = w.heap[b]?) → laid w → laid w'
  cnt : Bool := false

/-- A context in which the orders drawn are not counted. -/
class Ctx.Loose (C : Ctx) : Prop where
  cnt : C.cnt = false

/-- What was there when the call began: the world, where the objects lay that were handed over, which blocks may be written, which belong to callers. -/
structure Ent where
  w0 : World
  m : Nat
  bs0 : Nat → Option Hd
  mut0 : Nat → Prop
  outer : Nat → Prop

def mutB (O : Nat → Option AObj) (bs : Nat → Option Hd) (b : Nat) : Prop := ∃ r o c, O r = some o ∧ o.mut = true ∧ bs r = some (.blk b c)
def MB (E : Ent) (O : Nat → Option AObj) (bs : Nat → Option Hd) (b : Nat) : Prop := E.outer b ∨ mutB O bs b

/-- The orders drawn so far grow in number (where that is counted); the tape that they are drawn from stays. -/
structure TL (c : Bool) (w' w : World) : Prop where
  tape : w'.tape = w.tape
  drawn : c = true → w.drawn ≤ w'.drawn
theorem TL.trans {c : Bool} {w w1 w2 : World} (h : TL c w2 w1) (k : TL c w1 w) : TL c w2 w := ⟨h.tape.trans k.tape, fun hc => Nat.le_trans (k.drawn hc) (h.drawn hc)⟩
theorem TL.refl (c : Bool) (w : World) : TL c w w := ⟨rfl, fun _ => Nat.le_refl _⟩

structure WRep (C : Ctx) (E : Ent) (O : Nat → Option AObj) (bs : Nat → Option Hd) (w : World) : Prop where
  obj : ∀ r o, O r = some o → ObjOK w (MB E O bs) bs r o
  sep : ∀ r r' o o' b c c', O r = some o → O r' = some o' → o.mut = true → o'.mut = true → bs r = some (.blk b c) → bs r' = some (.blk b c') → r = r'
  out : ∀ b, mutB O bs b → ¬ E.outer b
  frz : ∀ r t sz n f b c, O r = some (.row t sz n f true) → bs r = some (.blk b c) → ¬ MB E O bs b
  high : ∀ b, MB E O bs b → C.gsz ≤ b
  lt : ∀ r b c, bs r = some (.blk b c) → b < w.heap.size
  outlt : ∀ b, E.outer b → b < E.w0.heap.size
  keep : ∀ b, b < E.w0.heap.size → ¬ E.mut0 b → w.heap[b]? = E.w0.heap[b]?
  old : ∀ b, mutB O bs b → E.mut0 b ∨ E.w0.heap.size ≤ b
  size : E.w0.heap.size ≤ w.heap.size
  pre : ∀ r h, r < E.m → E.bs0 r = some h → bs r = some h
  os : w.os = E.w0.os
  tape : TL C.cnt w E.w0
  output : w.output = E.w0.output
  laid : C.laid w
  gle : C.gsz ≤ E.w0.heap.size

def FRep (w : World) (M : Nat → Prop) (bs : Nat → Option Hd) (N : Nat) (T : Nat → Option AV) (a : Act) : Prop :=
  a.defers = [] ∧ a.tmps.size = N ∧ ∀ i u, T i = some u → ∃ v, a.tmps[i]? = some v ∧ V w M bs v u

def Rep (C : Ctx) (E : Ent) (N : Nat) (T : Nat → Option AV) (O : Nat → Option AObj) (bs : Nat → Option Hd) (a : Act) (w : World) : Prop :=
  FRep w (MB E O bs) bs N T a ∧ WRep C E O bs w

def lk {α : Type} : List (Nat × α) → Nat → Option α
  | [], _ => none
  | (j, x) :: l, i => match Nat.beq j i with
    | true => some x
    | false => lk l i

structure St where
  T : List (Nat × AV)
  O : List (Nat × AObj)
  nx : Nat
  dec : List Nat := []

theorem lk_cons {α : Type} (p : Nat × α) (l : List (Nat × α)) (i : Nat) : lk (p :: l) i = if p.1 = i then some p.2 else lk l i := by
  obtain ⟨j, x⟩ := p
  simp only [lk]
  by_cases h : j = i
  · rw [if_pos h, h, Nat.beq_refl]
  · rw [if_neg h]
    have : Nat.beq j i = false := by
      cases hb : Nat.beq j i with
      | false => rfl
      | true => exact absurd (Nat.eq_of_beq_eq_true hb) h
    rw [this]

theorem FRep.put {w : World} {M : Nat → Prop} {bs : Nat → Option Hd} {N : Nat} {T : List (Nat × AV)} {a : Act} (h : FRep w M bs N (lk T) a) {d : Nat} (hd : d < N) {v : Value} {u : AV} (hv : V w M bs v u) :
    FRep w M bs N (lk ((d, u) :: T)) (a.put (some d) v) := by
  obtain ⟨h0, h1, h2⟩ := h
  refine ⟨by simpa [Act.put] using h0, by simpa [Act.put] using h1, fun i x hx => ?_⟩
  rw [lk_cons] at hx
  by_cases hi : d = i
  · subst hi
    simp only [↓reduceIte, Option.some.injEq] at hx
    subst hx
    exact ⟨v, by simp [Act.put, h1, hd], hv⟩
  · simp only [hi, ↓reduceIte] at hx
    obtain ⟨y, hy, hyv⟩ := h2 i x hx
    exact ⟨y, by simp [Act.put, Array.getElem?_setIfInBounds_ne hi, hy], hyv⟩

theorem FRep.step {w w' : World} {M M' : Nat → Prop} {bs bs' : Nat → Option Hd} {N : Nat} {T : Nat → Option AV} {a : Act} (s : Step w M bs w' M' bs') (h : FRep w M bs N T a) : FRep w' M' bs' N T a :=
  ⟨h.1, h.2.1, fun i u hu => let ⟨v, h1, h2⟩ := h.2.2 i u hu; ⟨v, h1, h2.step s⟩⟩


theorem ObjOK.step {w w' : World} {M M' : Nat → Prop} {bs bs' : Nat → Option Hd} (s : Step w M bs w' M' bs') {r : Nat} {o : AObj} (hb : ∀ b c, bs r = some (.blk b c) → w'.heap[b]? = w.heap[b]?) (h : ObjOK w M bs r o) : ObjOK w' M' bs' r o := by
  cases o with
  | cells cs t =>
    obtain ⟨b, c, vs, h1, h2, h3, h4, h5⟩ := h
    exact ⟨b, c, vs, s.bs _ _ h1, (hb _ _ h1).trans h2, h3, h4, fun j v u hv hu => (h5 j v u hv hu).step s⟩
  | row t sz n f fr =>
    rcases h with ⟨h1, h2⟩ | ⟨b, c, vs, h1, h2, h3, h4, h5, h6, h7, h8⟩
    · exact .inl ⟨s.bs _ _ h1, h2⟩
    · exact .inr ⟨b, c, vs, s.bs _ _ h1, (hb _ _ h1).trans h2, h3, h4, h5, h6, h7, fun i hi j v u hj hv hu => (h8 i hi j v u hj hv hu).step s⟩
  | amap es =>
    obtain ⟨b, c, ents, clock, h1, h2, h3, h4⟩ := h
    exact ⟨b, c, ents, clock, s.bs _ _ h1, (hb _ _ h1).trans h2, ⟨h3.1, fun j e p he hp => ⟨(h3.2 j e p he hp).1.step s, (h3.2 j e p he hp).2.step s⟩⟩, h4⟩
  | siter l pos =>
    obtain ⟨b, c, bytes, h1, h2, h3⟩ := h
    exact ⟨b, c, bytes, s.bs _ _ h1, (hb _ _ h1).trans h2, h3⟩
  | miter m n0 left =>
    obtain ⟨b, c, bm, cm, seen, h1, h2, h3, h4⟩ := h
    exact ⟨b, c, bm, cm, seen, s.bs _ _ h1, s.bs _ _ h2, (hb _ _ h1).trans h3, h4⟩
  | dead => trivial

/-- One step of our own memory: which blocks may have turned, which objects are new or changed. -/
theorem WRep.next {C : Ctx} {E : Ent} {O O' : Nat → Option AObj} {bs bs' : Nat → Option Hd} {w w' : World} (hW : WRep C E O bs w) (Ch : Nat → Prop)
    (hbs : ∀ i h, bs i = some h → bs' i = some h)
    (hb' : ∀ i b c, bs' i = some (.blk b c) → bs i = some (.blk b c) ∨ (w.heap.size ≤ b ∧ b < w'.heap.size) ∨ mutB O bs b)
    (hCh : ∀ b, Ch b → mutB O bs b) (hheap : ∀ b, b < w.heap.size → ¬ Ch b → w'.heap[b]? = w.heap[b]?) (hsize : w.heap.size ≤ w'.heap.size)
    (hmut : ∀ b, mutB O' bs' b → mutB O bs b ∨ w.heap.size ≤ b)
    (hobj : Step w (MB E O bs) bs w' (MB E O' bs') bs' → ∀ i o, O' i = some o → (O i = some o ∧ ∀ b c, bs i = some (.blk b c) → ¬ Ch b) ∨ ObjOK w' (MB E O' bs') bs' i o)
    (hsep : ∀ r r' o o' b c c', O' r = some o → O' r' = some o' → o.mut = true → o'.mut = true → bs' r = some (.blk b c) → bs' r' = some (.blk b c') → r = r')
    (hfrz : ∀ r t sz n f b c, O' r = some (.row t sz n f true) → bs' r = some (.blk b c) → ¬ mutB O' bs' b ∧ ¬ E.outer b)
    (hos : w'.os = w.os) (htape : TL C.cnt w' w) (hout : w'.output = w.output) :
    Step w (MB E O bs) bs w' (MB E O' bs') bs' ∧ WRep C E O' bs' w' := by
  have hS : Step w (MB E O bs) bs w' (MB E O' bs') bs' := by
    refine ⟨hbs, fun b hb hM hM' => ?_, fun b hb hM => hheap b hb fun hc => hM (.inr (hCh b hc)), hsize⟩
    rcases hM' with h | h
    · exact hM (.inl h)
    · rcases hmut b h with h | h
      · exact hM (.inr h)
      · omega
  refine ⟨hS, ?_⟩
  have hmlt : ∀ b, mutB O bs b → b < w.heap.size := fun b ⟨r, o, c, _, _, h⟩ => hW.lt r b c h
  exact {
    obj := fun i o ho => by
      rcases hobj hS i o ho with ⟨h1, h2⟩ | h
      · have hok := hW.obj i o h1
        exact hok.step hS fun b c hb => hheap b (hW.lt i b c hb) (h2 b c hb)
      · exact h
    sep := hsep
    out := fun b hb ho => by
      rcases hmut b hb with h | h
      · exact hW.out b h ho
      · have := hW.outlt b ho
        have := hW.size
        omega
    frz := fun r t sz n f b c ho hb hM => by
      obtain ⟨h1, h2⟩ := hfrz r t sz n f b c ho hb
      exact hM.elim h2 h1
    high := fun b hb => by
      rcases hb with h | h
      · exact hW.high b (.inl h)
      · rcases hmut b h with h | h
        · exact hW.high b (.inr h)
        · have := hW.gle
          have := hW.size
          omega
    lt := fun r b c h => by
      rcases hb' r b c h with h | h | h
      · exact Nat.lt_of_lt_of_le (hW.lt r b c h) hsize
      · exact h.2
      · exact Nat.lt_of_lt_of_le (hmlt b h) hsize
    outlt := hW.outlt
    keep := fun b hb hm => by
      have hlt : b < w.heap.size := Nat.lt_of_lt_of_le hb hW.size
      rw [hheap b hlt (fun hc => ?_)]
      · exact hW.keep b hb hm
      · rcases hW.old b (hCh b hc) with h | h
        · exact hm h
        · omega
    old := fun b hb => by
      rcases hmut b hb with h | h
      · exact hW.old b h
      · right; exact Nat.le_trans hW.size h
    size := Nat.le_trans hW.size hsize
    pre := fun r h hr hb => hbs r h (hW.pre r h hr hb)
    os := hos.trans hW.os
    tape := htape.trans hW.tape
    output := hout.trans hW.output
    laid := C.keep w w' (fun b hb => hheap b (Nat.lt_of_lt_of_le hb (Nat.le_trans hW.gle hW.size)) fun hc => by
      have := hW.high b (.inr (hCh b hc))
      omega) hW.laid
    gle := hW.gle }

end Go.Eng
/- The engine, part 2: operations that write nothing: what they give in abstract terms, and that the model agrees. -/
namespace Go.Eng

structure TI where
  desc : TypeDesc
  sz : Nat
  bytes : Nat
  zero : Value
  cmp : Bool := false

abbrev TE := List (Nat × TI)

/-- The table of types says what the program's table says. -/
def TE.ok (P : Program) (te : TE) : Prop := ∀ t ti, lk te t = some ti → P.underlying t = some ti.desc ∧ (∃ i, P.info? t = some i ∧ i.size = ti.sz ∧ i.bytes = ti.bytes ∧ i.zero = some ti.zero) ∧
  (ti.cmp = true → P.stoodInHeld t = false ∧ P.eqGuardType P.depth t = false ∧ ∀ fs, ti.desc = .struct fs → ∀ f ∈ fs.toList, f.name ≠ "_")

def isAggD : TypeDesc → Bool
  | .struct _ => true
  | .array _ _ => true
  | _ => false

def inR : IntKind → Int → Prop
  | .i8, n => -128 ≤ n ∧ n ≤ 127
  | .i16, n => -32768 ≤ n ∧ n ≤ 32767
  | .i32, n => -2147483648 ≤ n ∧ n ≤ 2147483647
  | .i64, n => -9223372036854775808 ≤ n ∧ n ≤ 9223372036854775807
  | .u8, n => 0 ≤ n ∧ n ≤ 255
  | .u16, n => 0 ≤ n ∧ n ≤ 65535
  | .u32, n => 0 ≤ n ∧ n ≤ 4294967295
  | .u64, n => 0 ≤ n ∧ n ≤ 18446744073709551615

theorem wrap_in {k : IntKind} {n : Int} (h : inR k n) : k.wrap n = n := by
  cases k <;> simp only [inR] at h <;> simp [IntKind.wrap, IntKind.bits, IntKind.signed] <;> omega


def avc : Value → Option AV
  | .bool b => some (.bool b)
  | .int k n => some (.int k n)
  | .string s => some (.str s.data.toList)
  | .pointer none => some .nilptr
  | .slice none 0 0 => some .nil
  | .map none => some .nilmap
  | .nilFunc => some .nilfunc
  | .nilIface => some .nilIface
  | _ => none

theorem avc_sound {w : World} {M : Nat → Prop} {bs : Nat → Option Hd} {v : Value} {u : AV} (h : avc v = some u) : V w M bs v u := by
  unfold avc at h
  split at h <;> simp only [Option.some.injEq, reduceCtorEq] at h <;> subst h
  · exact .bool
  · exact .int
  · exact .str rfl
  · exact .nilptr
  · exact .nil
  · exact .nilmap
  · exact .nilfunc
  · exact .nilIface

theorem avc_one {v : Value} {u : AV} (h : avc v = some u) : v.oneCell' = true := by
  unfold avc at h
  split at h <;> first | rfl | cases h

def evO (T : Nat → Option AV) : Operand → Option AV
  | .tmp t => T t
  | .const v => avc v
  | .func f => some (.func f [])
  | .global _ => none

theorem evO_sound {w : World} {M : Nat → Prop} {bs : Nat → Option Hd} {N : Nat} {T : Nat → Option AV} {a : Act} (hF : FRep w M bs N T a) {x : Operand} {u : AV} (h : evO T x = some u) : V w M bs (a.eval x) u := by
  cases x with
  | tmp t =>
    obtain ⟨v, hv, hV⟩ := hF.2.2 t u h
    simp only [Act.eval, Array.getD_eq_getD_getElem?, hv, Option.getD_some]
    exact hV
  | const v => exact avc_sound h
  | func f =>
    simp only [evO, Option.some.injEq] at h
    subst h
    exact .func (caps := #[]) rfl (fun j v u h => by simp at h)
  | global g => cases h

def takeN {α : Type} : Nat → List α → Option (List α)
  | 0, _ => some []
  | _ + 1, [] => none
  | n + 1, x :: l => match takeN n l with
    | some r => some (x :: r)
    | none => none

theorem takeN_eq {α : Type} : ∀ {n : Nat} {l r : List α}, takeN n l = some r → n ≤ l.length ∧ r = l.take n
  | 0, l, r, h => by simp [takeN] at h; subst h; simp
  | n + 1, [], r, h => by simp [takeN] at h
  | n + 1, x :: l, r, h => by
    simp only [takeN] at h
    split at h
    · rename_i r' hr
      have := takeN_eq hr
      simp at h
      subst h
      simp [this.1, this.2]
    · cases h

def dropL {α : Type} : Nat → List α → List α
  | 0, l => l
  | _ + 1, [] => []
  | n + 1, _ :: l => dropL n l

theorem dropL_eq {α : Type} : ∀ (n : Nat) (l : List α), dropL n l = l.drop n
  | 0, l => by simp [dropL]
  | n + 1, [] => by simp [dropL]
  | n + 1, x :: l => by simp [dropL, dropL_eq n l]

/-- The cells that stand behind a pointer, to the end of the variable or element that it points into. -/
def ptrCells (O : Nat → Option AObj) : AV → Option (List AV × Prop)
  | .ptr r off => match O r with
    | some (.cells cs _) => some (dropL off cs, True)
    | _ => none
  | .eptr r sz i off => match O r with
    | some (.row _ sz' n f _) => some (dropL off (f i), i < n ∧ sz = sz')
    | _ => none
  | .vptr g => some (g, True)
  | _ => none

def PCells (w : World) (M : Nat → Prop) (bs : Nat → Option Hd) (v : Value) (g : List AV) : Prop :=
  ∃ (ad : Addr) (cv : Nat → Value), v = .pointer (some ad) ∧ (∀ j, j < g.length → w.cell? (ad.add j) = some (cv j)) ∧ (∀ j, j < g.length → (cv j).oneCell' = true) ∧ ∀ j u, g[j]? = some u → V w M bs (cv j) u

theorem ptrCells_sound {C : Ctx} {E : Ent} {O : Nat → Option AObj} {bs : Nat → Option Hd} {w : World} (hW : WRep C E O bs w) {v : Value} {u : AV} {g : List AV} {vc : Prop}
    (hv : V w (MB E O bs) bs v u) (h : ptrCells O u = some (g, vc)) (hvc : vc) : PCells w (MB E O bs) bs v g := by
  unfold ptrCells at h
  split at h
  · rename_i r off
    split at h
    · rename_i cs t ho
      simp only [Option.some.injEq, Prod.mk.injEq] at h
      obtain ⟨rfl, _⟩ := h
      obtain ⟨b, c, vs, hb, hh, hsz, h1, hV⟩ := hW.obj r _ ho
      cases hv with
      | ptr hb' =>
        rw [hb] at hb'
        injection hb' with hb'
        injection hb' with e1 e2
        subst e1
        refine ⟨_, fun j => vs.getD (off + j) default, rfl, fun j hj => ?_, fun j hj => ?_, fun j x hx => ?_⟩
        · rw [dropL_eq, List.length_drop] at hj
          rw [Addr.add_lit, cell_of_row w b (off + j) vs t (0, 0) hh]
          simp [show off + j < vs.size by omega]
        · rw [dropL_eq, List.length_drop] at hj
          exact h1 (off + j) _ (by simp [show off + j < vs.size by omega])
        · rw [dropL_eq, List.getElem?_drop] at hx
          have hlt : off + j < cs.length := (List.getElem?_eq_some_iff.1 hx).1
          exact hV (off + j) _ x (by simp [show off + j < vs.size by omega]) hx
    · cases h
  · rename_i r sz i off
    split at h
    · rename_i t sz' n f fr ho
      simp only [Option.some.injEq, Prod.mk.injEq] at h
      obtain ⟨rfl, rfl⟩ := h
      obtain ⟨hi, rfl⟩ := hvc
      rcases hW.obj r _ ho with ⟨_, h0⟩ | ⟨b, c, vs, hb, hh, hnc, hcm, hsz, hl, h1, hV⟩
      · omega
      cases hv with
      | eptr hb' =>
        rw [hb] at hb'
        injection hb' with hb'
        injection hb' with e1 e2
        subst e1
        have hlf := hl i hi
        have hle : (i + 1) * sz ≤ c * sz := Nat.mul_le_mul_right _ (by omega)
        rw [Nat.add_mul, Nat.one_mul] at hle
        refine ⟨_, fun j => vs.getD (i * sz + (off + j)) default, rfl, fun j hj => ?_, fun j hj => ?_, fun j x hx => ?_⟩
        · rw [dropL_eq, List.length_drop] at hj
          rw [Addr.add_lit, Nat.add_assoc, cell_of_row w b (i * sz + (off + j)) vs t (0, 0) hh]
          simp [show i * sz + (off + j) < vs.size by omega]
        · rw [dropL_eq, List.length_drop] at hj
          exact h1 i hi (off + j) (by omega) _ (by simp [show i * sz + (off + j) < vs.size by omega])
        · rw [dropL_eq, List.getElem?_drop] at hx
          have hlt : off + j < (f i).length := (List.getElem?_eq_some_iff.1 hx).1
          exact hV i hi (off + j) _ x (by omega) (by simp [show i * sz + (off + j) < vs.size by omega]) hx
    · cases h
  · simp only [Option.some.injEq, Prod.mk.injEq] at h
    obtain ⟨rfl, _⟩ := h
    cases hv with
    | vptr cv hM hb hc h1 hv => exact ⟨_, cv, rfl, hc, h1, fun j u hu => (hv j u hu).lift⟩
  · cases h

theorem run_loadCellsFrom {P : Program} {w : World} {a : Addr} {cv : Nat → Value} : ∀ (n i : Nat) (acc : Array Value), (∀ j, j < n → w.cell? (a.add (i + j)) = some (cv (i + j))) →
    (loadCellsFrom a i n acc).run P w = .ok (acc ++ ((List.range n).map fun j => cv (i + j)).toArray) w
  | 0, i, acc, h => by simp [loadCellsFrom]
  | n + 1, i, acc, h => by
    have h0 := h 0 (by omega)
    simp only [Nat.add_zero] at h0
    simp only [loadCellsFrom, Sem.run_bind, run_load, h0, Result.andThen_ok]
    rw [run_loadCellsFrom n (i + 1) _ (fun j hj => by have := h (j + 1) (by omega); rwa [show i + (j + 1) = i + 1 + j by omega] at this)]
    congr 1
    rw [List.range_succ_eq_map]
    apply Array.toList_inj.1
    simp [Function.comp_def, Nat.add_assoc, Nat.add_comm 1]

theorem run_loadVar {P : Program} {te : TE} (hte : TE.ok P te) {w : World} {t : TypeId} {ti : TI} (ht : lk te t = some ti) {a : Addr} {cv : Nat → Value} (hc : ∀ j, j < ti.sz → w.cell? (a.add j) = some (cv j))
    (h1 : isAggD ti.desc = false → ti.sz = 1) :
    (loadVar t a).run P w = .ok (if isAggD ti.desc then .agg ((List.range ti.sz).map cv).toArray else cv 0) w := by
  obtain ⟨hu, ⟨i, hi, hs, _, _⟩, _⟩ := hte t ti ht
  have hagg : (isAgg t).run P w = .ok (isAggD ti.desc) w := by
    simp only [isAgg, Sem.run_bind, run_underlying hu, Result.andThen_ok]
    cases ti.desc <;> simp [isAggD]
  have hsz : (sizeOf t).run P w = .ok ti.sz w := by simp [sizeOf, typeInfo, hi, hs]
  simp only [loadVar, Sem.run_bind, hagg, Result.andThen_ok]
  cases hd : isAggD ti.desc with
  | true =>
    simp only [↓reduceIte, Sem.run_bind, hsz, Result.andThen_ok, loadCells]
    rw [run_loadCellsFrom (cv := cv) ti.sz 0 #[] (by simpa using hc)]
    simp
  | false =>
    have := hc 0 (by rw [h1 hd]; omega)
    rw [Addr.add_zero'] at this
    simp [this]

end Go.Eng
/- The engine, part 3: what an operation that writes nothing gives, operation by operation. -/
namespace Go.Eng

/-- The operation's run: a value, the world as it was. -/
def Gives (P : Program) (w : World) (M : Nat → Prop) (bs : Nat → Option Hd) (s : Sem Next) (u : AV) : Prop :=
  ∃ v, s.run P w = .ok (.value v) w ∧ V w M bs v u

/-- Sums, differences, products: an unsigned one wraps, a signed one must fit. -/
def arithA (k : IntKind) (n : Int) : Option (AV × Prop) := match k with
  | .u8 => some (.int .u8 (n % 256), True)
  | .u16 => some (.int .u16 (n % 65536), True)
  | .u32 => some (.int .u32 (n % 4294967296), True)
  | .u64 => some (.int .u64 (n % 18446744073709551616), True)
  | .i8 => some (.int .i8 n, inR .i8 n)
  | .i16 => some (.int .i16 n, inR .i16 n)
  | .i32 => some (.int .i32 n, inR .i32 n)
  | .i64 => some (.int .i64 n, inR .i64 n)

theorem arithA_wrap {k : IntKind} {n : Int} {u : AV} {vc : Prop} (h : arithA k n = some (u, vc)) (hvc : vc) : u = .int k (k.wrap n) := by
  cases k <;> simp only [arithA, Option.some.injEq, Prod.mk.injEq] at h <;> obtain ⟨rfl, rfl⟩ := h
  case u8 | u16 | u32 | u64 => simp [IntKind.wrap, IntKind.bits, IntKind.signed]
  all_goals (rw [wrap_in hvc])

def binA (d : TypeDesc) : BinOp → AV → AV → Option (AV × Prop)
  | .add, .int k a, .int k' b => if k = k' then arithA k (a + b) else none
  | .sub, .int k a, .int k' b => if k = k' then arithA k (a - b) else none
  | .mul, .int k a, .int k' b => if k = k' then arithA k (a * b) else none
  | .quo, .int k a, .int k' b => if k = k' then some (.int k (a.tdiv b), b ≠ 0 ∧ inR k (a.tdiv b)) else none
  | .rem, .int k a, .int k' b => if k = k' then some (.int k (a.tmod b), b ≠ 0) else none
  | .and, .int k a, .int k' b => if k = k' then some (.int k (bits .and k a b), True) else none
  | .or, .int k a, .int k' b => if k = k' then some (.int k (bits .or k a b), True) else none
  | .xor, .int k a, .int k' b => if k = k' then some (.int k (bits .xor k a b), True) else none
  | .shl, .int k a, .int _ b => some (.int k (k.wrap (a * 2 ^ b.toNat)), 0 ≤ b ∧ b ≤ k.bits)
  | .shr, .int k a, .int _ b => some (.int k (a / 2 ^ b.toNat), 0 ≤ b ∧ b ≤ k.bits)
  | .eql, .int k a, .int k' b => if k = k' then some (.bool (decide (a = b)), True) else none
  | .neq, .int k a, .int k' b => if k = k' then some (.bool (!decide (a = b)), True) else none
  | .lss, .int k a, .int k' b => if k = k' then some (.bool (decide (a < b)), True) else none
  | .leq, .int k a, .int k' b => if k = k' then some (.bool (decide (a ≤ b)), True) else none
  | .gtr, .int k a, .int k' b => if k = k' then some (.bool (decide (b < a)), True) else none
  | .geq, .int k a, .int k' b => if k = k' then some (.bool (decide (b ≤ a)), True) else none
  | .add, .str a, .str b => some (.str (a ++ b), a.length + b.length ≤ 9223372036854775807)
  | .eql, .str a, .str b => some (.bool (decide (a = b)), True)
  | .neq, .str a, .str b => some (.bool (!decide (a = b)), True)
  | .lss, .str a, .str b => some (.bool (Op.bytesLess a b), True)
  | .leq, .str a, .str b => some (.bool (Op.bytesLess a b || decide (a = b)), True)
  | .gtr, .str a, .str b => some (.bool (!(Op.bytesLess a b || decide (a = b))), True)
  | .geq, .str a, .str b => some (.bool (!Op.bytesLess a b), True)
  | .eql, .bool a, .bool b => match d with
    | .bool => some (.bool (decide (a = b)), True)
    | _ => none
  | .neq, .bool a, .bool b => match d with
    | .bool => some (.bool (!decide (a = b)), True)
    | _ => none
  | .eql, .ptr _ _, .nilptr => match d with
    | .pointer _ => some (.bool false, True)
    | _ => none
  | .neq, .ptr _ _, .nilptr => match d with
    | .pointer _ => some (.bool true, True)
    | _ => none
  | .eql, .nilIface, .nilIface => match d with
    | .interface _ => some (.bool true, True)
    | _ => none
  | .neq, .nilIface, .nilIface => match d with
    | .interface _ => some (.bool false, True)
    | _ => none
  | .eql, .iface _ _, .nilIface => match d with
    | .interface _ => some (.bool false, True)
    | _ => none
  | .neq, .iface _ _, .nilIface => match d with
    | .interface _ => some (.bool true, True)
    | _ => none
  | .eql, .view _ (_ + 1) _, .nil => match d with
    | .slice _ => some (.bool false, True)
    | _ => none
  | .neq, .view _ (_ + 1) _, .nil => match d with
    | .slice _ => some (.bool true, True)
    | _ => none
  | .eql, .own _ (_ + 1), .nil => match d with
    | .slice _ => some (.bool false, True)
    | _ => none
  | .neq, .own _ (_ + 1), .nil => match d with
    | .slice _ => some (.bool true, True)
    | _ => none
  | .eql, .nil, .nil => match d with
    | .slice _ => some (.bool true, True)
    | _ => none
  | .neq, .nil, .nil => match d with
    | .slice _ => some (.bool false, True)
    | _ => none
  | .eql, .map _, .nilmap => match d with
    | .map _ _ => some (.bool false, True)
    | _ => none
  | .neq, .map _, .nilmap => match d with
    | .map _ _ => some (.bool true, True)
    | _ => none
  | .eql, .nilmap, .nilmap => match d with
    | .map _ _ => some (.bool true, True)
    | _ => none
  | .neq, .nilmap, .nilmap => match d with
    | .map _ _ => some (.bool false, True)
    | _ => none
  | .eql, .nilptr, .nilptr => match d with
    | .pointer _ => some (.bool true, True)
    | _ => none
  | .neq, .nilptr, .nilptr => match d with
    | .pointer _ => some (.bool false, True)
    | _ => none
  | _, _, _ => none

theorem tolist_beq {x y : ByteArray} : (x.toList == y.toList) = decide (x.data.toList = y.data.toList) := by
  rw [ByteArray.toList_eq, ByteArray.toList_eq]
  by_cases h : x.data.toList = y.data.toList
  · simp [h]
  · rw [decide_eq_false h]; simpa using h

section
variable {P : Program} (w : World) (n : Nat) {t : TypeId}
theorem eqIn_bool (h : P.underlying t = some .bool) (a b : Bool) : (Op.equalIn (n + 1) t (.bool a) (.bool b)).run P w = .ok (a == b) w := by simp [Op.equalIn, run_underlying h]
theorem eqIn_ptr_nil {e : TypeId} (h : P.underlying t = some (.pointer e)) (a : Addr) : (Op.equalIn (n + 1) t (.pointer (some a)) (.pointer none)).run P w = .ok false w := by simp [Op.equalIn, run_underlying h]
theorem eqIn_nil_nil {m : Array (String × TypeId)} (h : P.underlying t = some (.interface m)) : (Op.equalIn (n + 1) t .nilIface .nilIface).run P w = .ok true w := by simp [Op.equalIn, run_underlying h]
theorem eqIn_iface_nil {m : Array (String × TypeId)} (h : P.underlying t = some (.interface m)) (d : TypeId) (v : Value) : (Op.equalIn (n + 1) t (.iface d v) .nilIface).run P w = .ok false w := by simp [Op.equalIn, run_underlying h]
theorem eqIn_slice_nil {e : TypeId} (h : P.underlying t = some (.slice e)) (a : Addr) (m c : Nat) : (Op.equalIn (n + 1) t (.slice (some a) m c) (.slice none 0 0)).run P w = .ok false w := by simp [Op.equalIn, run_underlying h]
theorem eqIn_slices_nil {e : TypeId} (h : P.underlying t = some (.slice e)) : (Op.equalIn (n + 1) t (.slice none 0 0) (.slice none 0 0)).run P w = .ok true w := by simp [Op.equalIn, run_underlying h]
theorem eqIn_map_nil {e e' : TypeId} (h : P.underlying t = some (.map e e')) (a : Nat) : (Op.equalIn (n + 1) t (.map (some a)) (.map none)).run P w = .ok false w := by simp [Op.equalIn, run_underlying h]
theorem eqIn_maps_nil {e e' : TypeId} (h : P.underlying t = some (.map e e')) : (Op.equalIn (n + 1) t (.map none) (.map none)).run P w = .ok true w := by simp [Op.equalIn, run_underlying h]
theorem eqIn_ptrs_nil {e : TypeId} (h : P.underlying t = some (.pointer e)) : (Op.equalIn (n + 1) t (.pointer none) (.pointer none)).run P w = .ok true w := by simp [Op.equalIn, run_underlying h]
theorem equal_of {x y : Value} {b : Bool} (h : ∀ n, (Op.equalIn (n + 1) t x y).run P w = .ok b w) : (Op.equal t x y).run P w = .ok b w := h 9999
end

theorem eql_of {P : Program} {w : World} {t : TypeId} {x y : Value} {b : Bool} (he : ∀ w : World, (Op.equal t x y).run P w = .ok b w) (hb : binOp .eql t x y = do pure (.bool (← Op.equal t x y))) : (binOp .eql t x y).run P w = .ok (.bool b) w := by
  simp [hb, he]
theorem neq_of {P : Program} {w : World} {t : TypeId} {x y : Value} {b : Bool} (he : ∀ w : World, (Op.equal t x y).run P w = .ok b w) (hb : binOp .neq t x y = do pure (.bool (!(← Op.equal t x y)))) : (binOp .neq t x y).run P w = .ok (.bool (!b)) w := by
  simp [hb, he]

theorem binA_sound {P : Program} {te : TE} (hte : TE.ok P te) {w : World} {M : Nat → Prop} {bs : Nat → Option Hd} {t : TypeId} {ti : TI} (ht : lk te t = some ti) {op : BinOp} {x y : Value} {a b : AV} {u : AV} {vc : Prop}
    (hx : V w M bs x a) (hy : V w M bs y b) (h : binA ti.desc op a b = some (u, vc)) (hvc : vc) : ∃ v, (binOp op t x y).run P w = .ok v w ∧ V w M bs v u := by
  obtain ⟨hu, _⟩ := hte t ti ht
  unfold binA at h
  split at h
  case h_1 | h_2 | h_3 =>
    split at h
    · rename_i hk; subst hk; cases hx; cases hy
      rw [arithA_wrap h hvc]
      exact ⟨.int _ _, by simp [go_sem], .int⟩
    · cases h
  case h_4 =>
    split at h <;> simp only [Option.some.injEq, Prod.mk.injEq, reduceCtorEq] at h
    obtain ⟨rfl, rfl⟩ := h; rename_i hk; subst hk; cases hx; cases hy
    exact ⟨.int _ _, by simp [go_sem, hvc.1, wrap_in hvc.2], .int⟩
  case h_5 =>
    split at h <;> simp only [Option.some.injEq, Prod.mk.injEq, reduceCtorEq] at h
    obtain ⟨rfl, rfl⟩ := h; rename_i hk; subst hk; cases hx; cases hy
    exact ⟨.int _ _, by simp [go_sem, hvc], .int⟩
  case h_6 | h_7 | h_8 =>
    split at h <;> simp only [Option.some.injEq, Prod.mk.injEq, reduceCtorEq] at h
    obtain ⟨rfl, rfl⟩ := h; rename_i hk; subst hk; cases hx; cases hy
    exact ⟨.int _ _, by simp only [go_sem, Sem.run_pure], .int⟩
  case h_9 =>
    simp only [Option.some.injEq, Prod.mk.injEq] at h
    obtain ⟨rfl, rfl⟩ := h; cases hx; cases hy
    exact ⟨.int _ _, by rw [binOp_shl, shift_shl _ _ _ _ hvc.1 hvc.2]; rfl, .int⟩
  case h_10 =>
    simp only [Option.some.injEq, Prod.mk.injEq] at h
    obtain ⟨rfl, rfl⟩ := h; cases hx; cases hy
    exact ⟨.int _ _, by rw [binOp_shr, shift_shr _ _ _ _ hvc.1 hvc.2]; rfl, .int⟩
  case h_11 | h_12 | h_13 | h_14 | h_15 | h_16 =>
    split at h <;> simp only [Option.some.injEq, Prod.mk.injEq, reduceCtorEq] at h
    obtain ⟨rfl, rfl⟩ := h; rename_i hk; subst hk; cases hx; cases hy
    exact ⟨.bool _, by simp only [go_sem, Sem.run_pure] <;> rfl, .bool⟩
  case h_17 =>
    simp only [Option.some.injEq, Prod.mk.injEq] at h
    obtain ⟨rfl, rfl⟩ := h; cases hx with | str hx => cases hy with | str hy =>
    rename_i s1 s2
    refine ⟨.string (s1 ++ s2), ?_, .str (by rw [← hx, ← hy]; simp)⟩
    have e1 : s1.size = s1.data.toList.length := by simp
    have e2 : s2.size = s2.data.toList.length := by simp
    have : ¬ ((s1.size + s2.size : Nat) : Int) > IntKind.i64.max := by rw [IntKind.max_i64, e1, e2, hx, hy]; omega
    simp [binOp, Op.stringOp]; simp at this; omega
  case h_18 | h_19 | h_20 | h_21 | h_22 | h_23 =>
    simp only [Option.some.injEq, Prod.mk.injEq] at h
    obtain ⟨rfl, rfl⟩ := h; cases hx with | str hx => cases hy with | str hy =>
    subst hx; subst hy
    exact ⟨.bool _, by simp only [binOp, Op.stringOp, Sem.run_pure, tolist_beq] <;> simp only [ByteArray.toList_eq], .bool⟩
  case h_24 =>
    split at h <;> simp only [Option.some.injEq, Prod.mk.injEq, reduceCtorEq] at h
    rename_i hd; obtain ⟨rfl, rfl⟩ := h; rw [hd] at hu; cases hx; cases hy
    exact ⟨.bool _, eql_of (fun w => equal_of w fun n => eqIn_bool w n hu _ _) rfl, .bool⟩
  case h_25 =>
    split at h <;> simp only [Option.some.injEq, Prod.mk.injEq, reduceCtorEq] at h
    rename_i hd; obtain ⟨rfl, rfl⟩ := h; rw [hd] at hu; cases hx; cases hy
    exact ⟨.bool _, neq_of (fun w => equal_of w fun n => eqIn_bool w n hu _ _) rfl, .bool⟩
  case h_26 =>
    split at h <;> simp only [Option.some.injEq, Prod.mk.injEq, reduceCtorEq] at h
    rename_i hd; obtain ⟨rfl, rfl⟩ := h; rw [hd] at hu; cases hx; cases hy
    exact ⟨.bool _, eql_of (fun w => equal_of w fun n => eqIn_ptr_nil w n hu _) rfl, .bool⟩
  case h_27 =>
    split at h <;> simp only [Option.some.injEq, Prod.mk.injEq, reduceCtorEq] at h
    rename_i hd; obtain ⟨rfl, rfl⟩ := h; rw [hd] at hu; cases hx; cases hy
    exact ⟨.bool _, neq_of (fun w => equal_of w fun n => eqIn_ptr_nil w n hu _) rfl, .bool⟩
  case h_28 =>
    split at h <;> simp only [Option.some.injEq, Prod.mk.injEq, reduceCtorEq] at h
    rename_i hd; obtain ⟨rfl, rfl⟩ := h; rw [hd] at hu; cases hx; cases hy
    exact ⟨.bool _, eql_of (fun w => equal_of w fun n => eqIn_nil_nil w n hu) rfl, .bool⟩
  case h_29 =>
    split at h <;> simp only [Option.some.injEq, Prod.mk.injEq, reduceCtorEq] at h
    rename_i hd; obtain ⟨rfl, rfl⟩ := h; rw [hd] at hu; cases hx; cases hy
    exact ⟨.bool _, neq_of (fun w => equal_of w fun n => eqIn_nil_nil w n hu) rfl, .bool⟩
  case h_30 =>
    split at h <;> simp only [Option.some.injEq, Prod.mk.injEq, reduceCtorEq] at h
    rename_i hd; obtain ⟨rfl, rfl⟩ := h; rw [hd] at hu; cases hx; cases hy
    exact ⟨.bool _, eql_of (fun w => equal_of w fun n => eqIn_iface_nil w n hu _ _) rfl, .bool⟩
  case h_31 =>
    split at h <;> simp only [Option.some.injEq, Prod.mk.injEq, reduceCtorEq] at h
    rename_i hd; obtain ⟨rfl, rfl⟩ := h; rw [hd] at hu; cases hx; cases hy
    exact ⟨.bool _, neq_of (fun w => equal_of w fun n => eqIn_iface_nil w n hu _ _) rfl, .bool⟩
  case h_32 =>
    split at h <;> simp only [Option.some.injEq, Prod.mk.injEq, reduceCtorEq] at h
    rename_i hd; obtain ⟨rfl, rfl⟩ := h; rw [hd] at hu; cases hy
    cases hx with | view ad cv hn hcm hA hl hc h1 hv =>
    obtain ⟨rfl, _⟩ := hA (Nat.succ_pos _)
    exact ⟨.bool _, eql_of (fun w => equal_of w fun n => eqIn_slice_nil w n hu _ _ _) rfl, .bool⟩
  case h_33 =>
    split at h <;> simp only [Option.some.injEq, Prod.mk.injEq, reduceCtorEq] at h
    rename_i hd; obtain ⟨rfl, rfl⟩ := h; rw [hd] at hu; cases hy
    cases hx with | view ad cv hn hcm hA hl hc h1 hv =>
    obtain ⟨rfl, _⟩ := hA (Nat.succ_pos _)
    exact ⟨.bool _, neq_of (fun w => equal_of w fun n => eqIn_slice_nil w n hu _ _ _) rfl, .bool⟩
  case h_34 =>
    split at h <;> simp only [Option.some.injEq, Prod.mk.injEq, reduceCtorEq] at h
    rename_i hd; obtain ⟨rfl, rfl⟩ := h; rw [hd] at hu; cases hy
    cases hx with
    | ownnil h hn => cases hn
    | own h hn hcm =>
    exact ⟨.bool _, eql_of (fun w => equal_of w fun n => eqIn_slice_nil w n hu _ _ _) rfl, .bool⟩
  case h_35 =>
    split at h <;> simp only [Option.some.injEq, Prod.mk.injEq, reduceCtorEq] at h
    rename_i hd; obtain ⟨rfl, rfl⟩ := h; rw [hd] at hu; cases hy
    cases hx with
    | ownnil h hn => cases hn
    | own h hn hcm =>
    exact ⟨.bool _, neq_of (fun w => equal_of w fun n => eqIn_slice_nil w n hu _ _ _) rfl, .bool⟩
  case h_36 =>
    split at h <;> simp only [Option.some.injEq, Prod.mk.injEq, reduceCtorEq] at h
    rename_i hd; obtain ⟨rfl, rfl⟩ := h; rw [hd] at hu; cases hy
    cases hx
    exact ⟨.bool _, eql_of (fun w => equal_of w fun n => eqIn_slices_nil w n hu ) rfl, .bool⟩
  case h_37 =>
    split at h <;> simp only [Option.some.injEq, Prod.mk.injEq, reduceCtorEq] at h
    rename_i hd; obtain ⟨rfl, rfl⟩ := h; rw [hd] at hu; cases hy
    cases hx
    exact ⟨.bool _, neq_of (fun w => equal_of w fun n => eqIn_slices_nil w n hu ) rfl, .bool⟩
  case h_38 =>
    split at h <;> simp only [Option.some.injEq, Prod.mk.injEq, reduceCtorEq] at h
    rename_i hd; obtain ⟨rfl, rfl⟩ := h; rw [hd] at hu; cases hy
    cases hx
    exact ⟨.bool _, eql_of (fun w => equal_of w fun n => eqIn_map_nil w n hu _) rfl, .bool⟩
  case h_39 =>
    split at h <;> simp only [Option.some.injEq, Prod.mk.injEq, reduceCtorEq] at h
    rename_i hd; obtain ⟨rfl, rfl⟩ := h; rw [hd] at hu; cases hy
    cases hx
    exact ⟨.bool _, neq_of (fun w => equal_of w fun n => eqIn_map_nil w n hu _) rfl, .bool⟩
  case h_40 =>
    split at h <;> simp only [Option.some.injEq, Prod.mk.injEq, reduceCtorEq] at h
    rename_i hd; obtain ⟨rfl, rfl⟩ := h; rw [hd] at hu; cases hy
    cases hx
    exact ⟨.bool _, eql_of (fun w => equal_of w fun n => eqIn_maps_nil w n hu ) rfl, .bool⟩
  case h_41 =>
    split at h <;> simp only [Option.some.injEq, Prod.mk.injEq, reduceCtorEq] at h
    rename_i hd; obtain ⟨rfl, rfl⟩ := h; rw [hd] at hu; cases hy
    cases hx
    exact ⟨.bool _, neq_of (fun w => equal_of w fun n => eqIn_maps_nil w n hu ) rfl, .bool⟩
  case h_42 =>
    split at h <;> simp only [Option.some.injEq, Prod.mk.injEq, reduceCtorEq] at h
    rename_i hd; obtain ⟨rfl, rfl⟩ := h; rw [hd] at hu; cases hy
    cases hx
    exact ⟨.bool _, eql_of (fun w => equal_of w fun n => eqIn_ptrs_nil w n hu ) rfl, .bool⟩
  case h_43 =>
    split at h <;> simp only [Option.some.injEq, Prod.mk.injEq, reduceCtorEq] at h
    rename_i hd; obtain ⟨rfl, rfl⟩ := h; rw [hd] at hu; cases hy
    cases hx
    exact ⟨.bool _, neq_of (fun w => equal_of w fun n => eqIn_ptrs_nil w n hu ) rfl, .bool⟩
  case h_44 => cases h

end Go.Eng
