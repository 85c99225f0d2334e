/- Lemmas that the tied card of ProductValid is proved by. -/
import Derived.Orders
import Derived.Tactics
import Derived.Laws.AppendOwn
import Derived.Laws.Rows
import Derived.Laws.Entries
import Derived.Deep.LoopGhost
import Derived.Laws.Strings
import Derived.Lib.Strings
import Derived.Laws.StructEq
import Derived.Laws.Build
/- The engine, part 1: abstract values, abstract objects, and what it means that they stand for the model's values and memory. -/
namespace Go.Eng

inductive AV where
  | any
  | bool (b : Bool)
  | int (k : IntKind) (n : Int)
  | str (s : List UInt8)
  | nilptr
  | ptr (r : Nat) (off : Nat)
  | eptr (r : Nat) (sz i off : Nat)
  | vptr (g : List AV)
  | nil
  | empty
  | view (sz n : Nat) (f : Nat → List AV)
  | own (r : Nat) (n : Nat)
  | sub (r sz off n : Nat)
  | nilmap
  | map (r : Nat)
  | func (f : FuncId) (cap : List AV)
  | nilfunc
  | nilIface
  | iface (t : TypeId) (v : AV)
  | agg (cs : List AV)
  | tuple (vs : List AV)
  deriving Inhabited

/-- Where an abstract object lies: a block, with a slice's capacity; or nowhere (a nil slice). -/
inductive Hd where
  | blk (b cap : Nat)
  | nil

def nob : Nat → Option Hd := fun _ => none

/-- The value stands for the abstract value; what lies in read-only memory refers to nothing of our own. -/
inductive V (w : World) (M : Nat → Prop) : (Nat → Option Hd) → Value → AV → Prop where
  | any {bs : Nat → Option Hd} {v} : V w M bs v .any
  | bool {bs : Nat → Option Hd} {b} : V w M bs (.bool b) (.bool b)
  | int {bs : Nat → Option Hd} {k n} : V w M bs (.int k n) (.int k n)
  | str {bs : Nat → Option Hd} {s : ByteArray} {l : List UInt8} (h : s.data.toList = l) : V w M bs (.string s) (.str l)
  | nilptr {bs : Nat → Option Hd} : V w M bs (.pointer none) .nilptr
  | ptr {bs : Nat → Option Hd} {r off b c} (h : bs r = some (.blk b c)) : V w M bs (.pointer (some ⟨b, off, none⟩)) (.ptr r off)
  | eptr {bs : Nat → Option Hd} {r sz i off b c} (h : bs r = some (.blk b c)) : V w M bs (.pointer (some ⟨b, i * sz + off, none⟩)) (.eptr r sz i off)
  | vptr {bs : Nat → Option Hd} {ad : Addr} {g : List AV} (cv : Nat → Value) (hM : ¬ M ad.block) (hb : ad.block < w.heap.size) (hc : ∀ j, j < g.length → w.cell? (ad.add j) = some (cv j))
      (h1 : ∀ j, j < g.length → (cv j).oneCell' = true) (hv : ∀ j u, g[j]? = some u → V w M nob (cv j) u) : V w M bs (.pointer (some ad)) (.vptr g)
  | nil {bs : Nat → Option Hd} : V w M bs (.slice none 0 0) .nil
  | empty {bs : Nat → Option Hd} {A} : V w M bs (.slice A 0 0) .empty
  | view {bs : Nat → Option Hd} {A : Option Addr} {n c sz : Nat} {f : Nat → List AV} (ad : Addr) (cv : Nat → Nat → Value) (hn : n ≤ c) (hcm : c ≤ maxLen)
      (hA : 0 < n → A = some ad ∧ ¬ M ad.block ∧ ad.block < w.heap.size) (hl : ∀ i, i < n → (f i).length = sz)
      (hc : ∀ i, i < n → ∀ j, j < sz → w.cell? (ad.add (i * sz + j)) = some (cv i j)) (h1 : ∀ i, i < n → ∀ j, j < sz → (cv i j).oneCell' = true)
      (hv : ∀ i, i < n → ∀ j u, (f i)[j]? = some u → V w M nob (cv i j) u) : V w M bs (.slice A n c) (.view sz n f)
  | own {bs : Nat → Option Hd} {r n b c} (h : bs r = some (.blk b c)) (hn : n ≤ c) (hcm : c ≤ maxLen) : V w M bs (.slice (some ⟨b, 0, none⟩) n c) (.own r n)
  | ownnil {bs : Nat → Option Hd} {r n A} (h : bs r = some .nil) (hn : n = 0) : V w M bs (.slice A 0 0) (.own r n)
  | sub {bs : Nat → Option Hd} {r sz off n b c A} (h : bs r = some (.blk b c)) (hn : off + n ≤ c) (hcm : c ≤ maxLen) (hA : 0 < n → A = some ⟨b, off * sz, none⟩) : V w M bs (.slice A n (c - off)) (.sub r sz off n)
  | subnil {bs : Nat → Option Hd} {r sz off n A} (h : bs r = some .nil) (hn : n = 0) (ho : off = 0) : V w M bs (.slice A 0 0) (.sub r sz off n)
  | nilmap {bs : Nat → Option Hd} : V w M bs (.map none) .nilmap
  | map {bs : Nat → Option Hd} {r b c} (h : bs r = some (.blk b c)) : V w M bs (.map (some b)) (.map r)
  | func {bs : Nat → Option Hd} {f caps l} (hl : caps.size = l.length) (hv : ∀ (j : Nat) v u, caps[j]? = some v → l[j]? = some u → V w M bs v u) : V w M bs (.func (.func f) #[] caps) (.func f l)
  | nilfunc {bs : Nat → Option Hd} : V w M bs .nilFunc .nilfunc
  | nilIface {bs : Nat → Option Hd} : V w M bs .nilIface .nilIface
  | iface {bs : Nat → Option Hd} {t v u} (h : V w M bs v u) : V w M bs (.iface t v) (.iface t u)
  | agg {bs : Nat → Option Hd} {vs cs} (hl : vs.size = cs.length) (h1 : ∀ (j : Nat) (v : Value), vs[j]? = some v → v.oneCell' = true) (hv : ∀ (j : Nat) v u, vs[j]? = some v → cs[j]? = some u → V w M bs v u) : V w M bs (.agg vs) (.agg cs)
  | tuple {bs : Nat → Option Hd} {vs cs} (hl : vs.size = cs.length) (hv : ∀ (j : Nat) v u, vs[j]? = some v → cs[j]? = some u → V w M bs v u) : V w M bs (.tuple vs) (.tuple cs)

/-- What V needs of a step from one world to another. -/
structure Step (w : World) (M : Nat → Prop) (bs : Nat → Option Hd) (w' : World) (M' : Nat → Prop) (bs' : Nat → Option Hd) : Prop where
  bs : ∀ r h, bs r = some h → bs' r = some h
  far : ∀ b, b < w.heap.size → ¬ M b → ¬ M' b
  heap : ∀ b, b < w.heap.size → ¬ M b → w'.heap[b]? = w.heap[b]?
  size : w.heap.size ≤ w'.heap.size

theorem Step.trans {w w1 w2 : World} {M M1 M2 : Nat → Prop} {bs bs1 bs2 : Nat → Option Hd} (h : Step w M bs w1 M1 bs1) (k : Step w1 M1 bs1 w2 M2 bs2) : Step w M bs w2 M2 bs2 :=
  ⟨fun r x hx => k.bs r x (h.bs r x hx), fun b hb hM => k.far b (Nat.lt_of_lt_of_le hb h.size) (h.far b hb hM), fun b hb hM => (k.heap b (Nat.lt_of_lt_of_le hb h.size) (h.far b hb hM)).trans (h.heap b hb hM), Nat.le_trans h.size k.size⟩
theorem Step.refl (w : World) (M : Nat → Prop) (bs : Nat → Option Hd) : Step w M bs w M bs := ⟨fun _ _ h => h, fun _ _ h => h, fun _ _ _ => rfl, Nat.le_refl _⟩

theorem block_add (a : Addr) (n : Nat) : (a.add n).block = a.block := by unfold Addr.add; split <;> rfl

theorem cell_same {w w' : World} {a : Addr} (h : w'.heap[a.block]? = w.heap[a.block]?) : w'.cell? a = w.cell? a := by simp [World.cell?, h]

theorem V.step_ {w w' : World} {M M' : Nat → Prop} (far : ∀ b, b < w.heap.size → ¬ M b → ¬ M' b) (heap : ∀ b, b < w.heap.size → ¬ M b → w'.heap[b]? = w.heap[b]?) (size : w.heap.size ≤ w'.heap.size)
    {bs : Nat → Option Hd} {v : Value} {u : AV} (h : V w M bs v u) : ∀ bs' : Nat → Option Hd, (∀ r x, bs r = some x → bs' r = some x) → V w' M' bs' v u := by
  induction h with
  | any => exact fun _ _ => .any
  | bool => exact fun _ _ => .bool
  | int => exact fun _ _ => .int
  | str h => exact fun _ _ => .str h
  | nilptr => exact fun _ _ => .nilptr
  | ptr h => exact fun _ s => .ptr (s _ _ h)
  | eptr h => exact fun _ s => .eptr (s _ _ h)
  | @vptr bs ad g cv hM hb hc h1 hv ih =>
    exact fun _ s => .vptr cv (far _ hb hM) (Nat.lt_of_lt_of_le hb size) (fun j hj => (cell_same (by rw [block_add]; exact heap _ hb hM)).trans (hc j hj)) h1 fun j u hu => ih j u hu nob fun _ _ hh => hh
  | nil => exact fun _ _ => .nil
  | empty => exact fun _ _ => .empty
  | @view bs A n c sz f ad cv hn hcm hA hl hc h1 hv ih =>
    refine fun _ s => .view ad cv hn hcm (fun h0 => ?_) hl (fun i hi j hj => ?_) h1 fun i hi j u hu => ih i hi j u hu nob fun _ _ hh => hh
    · obtain ⟨e, hM, hb⟩ := hA h0
      exact ⟨e, far _ hb hM, Nat.lt_of_lt_of_le hb size⟩
    · obtain ⟨e, hM, hb⟩ := hA (by omega)
      exact (cell_same (by rw [block_add]; exact heap _ hb hM)).trans (hc i hi j hj)
  | own h hn hcm => exact fun _ s => .own (s _ _ h) hn hcm
  | ownnil h hn => exact fun _ s => .ownnil (s _ _ h) hn
  | sub h hn hcm hA => exact fun _ s => .sub (s _ _ h) hn hcm hA
  | subnil h hn ho => exact fun _ s => .subnil (s _ _ h) hn ho
  | nilmap => exact fun _ _ => .nilmap
  | map h => exact fun _ s => .map (s _ _ h)
  | func hl hv ih => exact fun _ s => .func hl fun j v u h1 h2 => ih j v u h1 h2 _ s
  | nilfunc => exact fun _ _ => .nilfunc
  | nilIface => exact fun _ _ => .nilIface
  | iface h ih => exact fun _ s => .iface (ih _ s)
  | agg hl h1 hv ih => exact fun _ s => .agg hl h1 fun j v u h1 h2 => ih j v u h1 h2 _ s
  | tuple hl hv ih => exact fun _ s => .tuple hl fun j v u h1 h2 => ih j v u h1 h2 _ s

theorem V.step {w w' : World} {M M' : Nat → Prop} {bs bs' : Nat → Option Hd} (s : Step w M bs w' M' bs') {v : Value} {u : AV} (h : V w M bs v u) : V w' M' bs' v u := h.step_ s.far s.heap s.size bs' s.bs

theorem V.lift {w : World} {M : Nat → Prop} {bs : Nat → Option Hd} {v : Value} {u : AV} (h : V w M nob v u) : V w M bs v u := h.step_ (fun _ _ h => h) (fun _ _ _ => rfl) (Nat.le_refl _) bs fun r x hx => by simp [nob] at hx

inductive AObj where
  | cells (cs : List AV) (t : TypeId)
  | row (t : TypeId) (sz n : Nat) (f : Nat → List AV) (fr : Bool)
  | amap (es : List (AV × AV))
  | siter (s : List UInt8) (pos : Nat)
  | miter (m n0 : Nat) (left : List Nat)
  | dead
  deriving Inhabited

def AObj.mut : AObj → Bool
  | .cells _ _ => true
  | .row _ _ _ _ fr => !fr
  | .amap _ => true
  | .siter _ _ => true
  | .miter _ _ _ => true
  | .dead => false

/-- A map's entries, in the model, read as pairs. -/
def EntOK (w : World) (M : Nat → Prop) (bs : Nat → Option Hd) (ents : Array MapEntry) (es : List (AV × AV)) : Prop :=
  ents.size = es.length ∧ ∀ (j : Nat) (e : MapEntry) (p : AV × AV), ents[j]? = some e → es[j]? = some p → V w M bs e.key p.1 ∧ V w M bs e.val p.2

def BornOK (ents : Array MapEntry) (clock : Nat) : Prop :=
  clock = ents.size ∧ ∀ (i : Nat) (e : MapEntry), ents[i]? = some e → e.born = i

def ObjOK (w : World) (M : Nat → Prop) (bs : Nat → Option Hd) (r : Nat) : AObj → Prop
  | .cells cs t => ∃ b c vs, bs r = some (.blk b c) ∧ w.heap[b]? = some (.cells vs t (0, 0)) ∧ vs.size = cs.length ∧ (∀ (j : Nat) (v : Value), vs[j]? = some v → v.oneCell' = true) ∧
      ∀ (j : Nat) v u, vs[j]? = some v → cs[j]? = some u → V w M bs v u
  | .row t sz n f _ => (bs r = some .nil ∧ n = 0) ∨
      ∃ b c vs, bs r = some (.blk b c) ∧ w.heap[b]? = some (.cells vs t (0, 0)) ∧ n ≤ c ∧ c ≤ maxLen ∧ vs.size = c * sz ∧ (∀ i, i < n → (f i).length = sz) ∧
        (∀ i, i < n → ∀ j, j < sz → ∀ v : Value, vs[i * sz + j]? = some v → v.oneCell' = true) ∧ ∀ i, i < n → ∀ (j : Nat) v u, j < sz → vs[i * sz + j]? = some v → (f i)[j]? = some u → V w M bs v u
  | .amap es => ∃ b c ents clock, bs r = some (.blk b c) ∧ w.heap[b]? = some (.map ents clock) ∧ EntOK w M bs ents es ∧ BornOK ents clock
  | .siter s pos => ∃ b c bytes, bs r = some (.blk b c) ∧ w.heap[b]? = some (.stringIter bytes pos) ∧ bytes.data.toList = s
  | .miter m n0 left => ∃ b c bm cm seen, bs r = some (.blk b c) ∧ bs m = some (.blk bm cm) ∧ w.heap[b]? = some (.mapIter (some bm) n0 seen n0) ∧
      left.Nodup ∧ (∀ i, i ∈ left → i < n0) ∧ ∀ i, i < n0 → (i ∈ left ↔ seen.contains i = false)
  | .dead => True

/-- The program, what its globals hold, and the blocks below which nothing of ours is ever written. -/
structure Ctx where
  P : Program
  gsz : Nat
  laid : World → Prop
  mixed : P.follows .mixedOrders = true
  keep : ∀ w w' : World, (∀ b, b < gsz → w'.heap[b]? = w.heap[b]?) → laid w → laid w'

/-- What was there when the call began: the world, where the objects lay that were handed over, which blocks may be written, which belong to callers. -/
structure Ent where
  w0 : World
  m : Nat
  bs0 : Nat → Option Hd
  mut0 : Nat → Prop
  outer : Nat → Prop

def mutB (O : Nat → Option AObj) (bs : Nat → Option Hd) (b : Nat) : Prop := ∃ r o c, O r = some o ∧ o.mut = true ∧ bs r = some (.blk b c)
def MB (E : Ent) (O : Nat → Option AObj) (bs : Nat → Option Hd) (b : Nat) : Prop := E.outer b ∨ mutB O bs b

structure WRep (C : Ctx) (E : Ent) (O : Nat → Option AObj) (bs : Nat → Option Hd) (w : World) : Prop where
  obj : ∀ r o, O r = some o → ObjOK w (MB E O bs) bs r o
  sep : ∀ r r' o o' b c c', O r = some o → O r' = some o' → o.mut = true → o'.mut = true → bs r = some (.blk b c) → bs r' = some (.blk b c') → r = r'
  out : ∀ b, mutB O bs b → ¬ E.outer b
  frz : ∀ r t sz n f b c, O r = some (.row t sz n f true) → bs r = some (.blk b c) → ¬ MB E O bs b
  high : ∀ b, MB E O bs b → C.gsz ≤ b
  lt : ∀ r b c, bs r = some (.blk b c) → b < w.heap.size
  outlt : ∀ b, E.outer b → b < E.w0.heap.size
  keep : ∀ b, b < E.w0.heap.size → ¬ E.mut0 b → w.heap[b]? = E.w0.heap[b]?
  old : ∀ b, mutB O bs b → E.mut0 b ∨ E.w0.heap.size ≤ b
  size : E.w0.heap.size ≤ w.heap.size
  pre : ∀ r h, r < E.m → E.bs0 r = some h → bs r = some h
  os : w.os = E.w0.os
  tape : w.tape = E.w0.tape
  output : w.output = E.w0.output
  laid : C.laid w
  gle : C.gsz ≤ E.w0.heap.size

def FRep (w : World) (M : Nat → Prop) (bs : Nat → Option Hd) (N : Nat) (T : Nat → Option AV) (a : Act) : Prop :=
  a.defers = [] ∧ a.tmps.size = N ∧ ∀ i u, T i = some u → ∃ v, a.tmps[i]? = some v ∧ V w M bs v u

def Rep (C : Ctx) (E : Ent) (N : Nat) (T : Nat → Option AV) (O : Nat → Option AObj) (bs : Nat → Option Hd) (a : Act) (w : World) : Prop :=
  FRep w (MB E O bs) bs N T a ∧ WRep C E O bs w

def lk {α : Type} : List (Nat × α) → Nat → Option α
  | [], _ => none
  | (j, x) :: l, i => match Nat.beq j i with
    | true => some x
    | false => lk l i

structure St where
  T : List (Nat × AV)
  O : List (Nat × AObj)
  nx : Nat
  dec : List Nat := []

theorem lk_cons {α : Type} (p : Nat × α) (l : List (Nat × α)) (i : Nat) : lk (p :: l) i = if p.1 = i then some p.2 else lk l i := by
  obtain ⟨j, x⟩ := p
  simp only [lk]
  by_cases h : j = i
  · rw [if_pos h, h, Nat.beq_refl]
  · rw [if_neg h]
    have : Nat.beq j i = false := by
      cases hb : Nat.beq j i with
      | false => rfl
      | true => exact absurd (Nat.eq_of_beq_eq_true hb) h
    rw [this]

theorem FRep.put {w : World} {M : Nat → Prop} {bs : Nat → Option Hd} {N : Nat} {T : List (Nat × AV)} {a : Act} (h : FRep w M bs N (lk T) a) {d : Nat} (hd : d < N) {v : Value} {u : AV} (hv : V w M bs v u) :
    FRep w M bs N (lk ((d, u) :: T)) (a.put (some d) v) := by
  obtain ⟨h0, h1, h2⟩ := h
  refine ⟨by simpa [Act.put] using h0, by simpa [Act.put] using h1, fun i x hx => ?_⟩
  rw [lk_cons] at hx
  by_cases hi : d = i
  · subst hi
    simp only [↓reduceIte, Option.some.injEq] at hx
    subst hx
    exact ⟨v, by simp [Act.put, h1, hd], hv⟩
  · simp only [hi, ↓reduceIte] at hx
    obtain ⟨y, hy, hyv⟩ := h2 i x hx
    exact ⟨y, by simp [Act.put, Array.getElem?_setIfInBounds_ne hi, hy], hyv⟩

theorem FRep.step {w w' : World} {M M' : Nat → Prop} {bs bs' : Nat → Option Hd} {N : Nat} {T : Nat → Option AV} {a : Act} (s : Step w M bs w' M' bs') (h : FRep w M bs N T a) : FRep w' M' bs' N T a :=
  ⟨h.1, h.2.1, fun i u hu => let ⟨v, h1, h2⟩ := h.2.2 i u hu; ⟨v, h1, h2.step s⟩⟩


theorem ObjOK.step {w w' : World} {M M' : Nat → Prop} {bs bs' : Nat → Option Hd} (s : Step w M bs w' M' bs') {r : Nat} {o : AObj} (hb : ∀ b c, bs r = some (.blk b c) → w'.heap[b]? = w.heap[b]?) (h : ObjOK w M bs r o) : ObjOK w' M' bs' r o := by
  cases o with
  | cells cs t =>
    obtain ⟨b, c, vs, h1, h2, h3, h4, h5⟩ := h
    exact ⟨b, c, vs, s.bs _ _ h1, (hb _ _ h1).trans h2, h3, h4, fun j v u hv hu => (h5 j v u hv hu).step s⟩
  | row t sz n f fr =>
    rcases h with ⟨h1, h2⟩ | ⟨b, c, vs, h1, h2, h3, h4, h5, h6, h7, h8⟩
    · exact .inl ⟨s.bs _ _ h1, h2⟩
    · exact .inr ⟨b, c, vs, s.bs _ _ h1, (hb _ _ h1).trans h2, h3, h4, h5, h6, h7, fun i hi j v u hj hv hu => (h8 i hi j v u hj hv hu).step s⟩
  | amap es =>
    obtain ⟨b, c, ents, clock, h1, h2, h3, h4⟩ := h
    exact ⟨b, c, ents, clock, s.bs _ _ h1, (hb _ _ h1).trans h2, ⟨h3.1, fun j e p he hp => ⟨(h3.2 j e p he hp).1.step s, (h3.2 j e p he hp).2.step s⟩⟩, h4⟩
  | siter l pos =>
    obtain ⟨b, c, bytes, h1, h2, h3⟩ := h
    exact ⟨b, c, bytes, s.bs _ _ h1, (hb _ _ h1).trans h2, h3⟩
  | miter m n0 left =>
    obtain ⟨b, c, bm, cm, seen, h1, h2, h3, h4⟩ := h
    exact ⟨b, c, bm, cm, seen, s.bs _ _ h1, s.bs _ _ h2, (hb _ _ h1).trans h3, h4⟩
  | dead => trivial

/-- One step of our own memory: which blocks may have turned, which objects are new or changed. -/
theorem WRep.next {C : Ctx} {E : Ent} {O O' : Nat → Option AObj} {bs bs' : Nat → Option Hd} {w w' : World} (hW : WRep C E O bs w) (Ch : Nat → Prop)
    (hbs : ∀ i h, bs i = some h → bs' i = some h)
    (hb' : ∀ i b c, bs' i = some (.blk b c) → bs i = some (.blk b c) ∨ (w.heap.size ≤ b ∧ b < w'.heap.size) ∨ mutB O bs b)
    (hCh : ∀ b, Ch b → mutB O bs b) (hheap : ∀ b, b < w.heap.size → ¬ Ch b → w'.heap[b]? = w.heap[b]?) (hsize : w.heap.size ≤ w'.heap.size)
    (hmut : ∀ b, mutB O' bs' b → mutB O bs b ∨ w.heap.size ≤ b)
    (hobj : Step w (MB E O bs) bs w' (MB E O' bs') bs' → ∀ i o, O' i = some o → (O i = some o ∧ ∀ b c, bs i = some (.blk b c) → ¬ Ch b) ∨ ObjOK w' (MB E O' bs') bs' i o)
    (hsep : ∀ r r' o o' b c c', O' r = some o → O' r' = some o' → o.mut = true → o'.mut = true → bs' r = some (.blk b c) → bs' r' = some (.blk b c') → r = r')
    (hfrz : ∀ r t sz n f b c, O' r = some (.row t sz n f true) → bs' r = some (.blk b c) → ¬ mutB O' bs' b ∧ ¬ E.outer b)
    (hos : w'.os = w.os) (htape : w'.tape = w.tape) (hout : w'.output = w.output) :
    Step w (MB E O bs) bs w' (MB E O' bs') bs' ∧ WRep C E O' bs' w' := by
  have hS : Step w (MB E O bs) bs w' (MB E O' bs') bs' := by
    refine ⟨hbs, fun b hb hM hM' => ?_, fun b hb hM => hheap b hb fun hc => hM (.inr (hCh b hc)), hsize⟩
    rcases hM' with h | h
    · exact hM (.inl h)
    · rcases hmut b h with h | h
      · exact hM (.inr h)
      · omega
  refine ⟨hS, ?_⟩
  have hmlt : ∀ b, mutB O bs b → b < w.heap.size := fun b ⟨r, o, c, _, _, h⟩ => hW.lt r b c h
  exact {
    obj := fun i o ho => by
      rcases hobj hS i o ho with ⟨h1, h2⟩ | h
      · have hok := hW.obj i o h1
        exact hok.step hS fun b c hb => hheap b (hW.lt i b c hb) (h2 b c hb)
      · exact h
    sep := hsep
    out := fun b hb ho => by
      rcases hmut b hb with h | h
      · exact hW.out b h ho
      · have := hW.outlt b ho
        have := hW.size
        omega
    frz := fun r t sz n f b c ho hb hM => by
      obtain ⟨h1, h2⟩ := hfrz r t sz n f b c ho hb
      exact hM.elim h2 h1
    high := fun b hb => by
      rcases hb with h | h
      · exact hW.high b (.inl h)
      · rcases hmut b h with h | h
        · exact hW.high b (.inr h)
        · have := hW.gle
          have := hW.size
          omega
    lt := fun r b c h => by
      rcases hb' r b c h with h | h | h
      · exact Nat.lt_of_lt_of_le (hW.lt r b c h) hsize
      · exact h.2
      · exact Nat.lt_of_lt_of_le (hmlt b h) hsize
    outlt := hW.outlt
    keep := fun b hb hm => by
      have hlt : b < w.heap.size := Nat.lt_of_lt_of_le hb hW.size
      rw [hheap b hlt (fun hc => ?_)]
      · exact hW.keep b hb hm
      · rcases hW.old b (hCh b hc) with h | h
        · exact hm h
        · omega
    old := fun b hb => by
      rcases hmut b hb with h | h
      · exact hW.old b h
      · right; exact Nat.le_trans hW.size h
    size := Nat.le_trans hW.size hsize
    pre := fun r h hr hb => hbs r h (hW.pre r h hr hb)
    os := hos.trans hW.os
    tape := htape.trans hW.tape
    output := hout.trans hW.output
    laid := C.keep w w' (fun b hb => hheap b (Nat.lt_of_lt_of_le hb (Nat.le_trans hW.gle hW.size)) fun hc => by
      have := hW.high b (.inr (hCh b hc))
      omega) hW.laid
    gle := hW.gle }

end Go.Eng

/- The engine, part 2: operations that write nothing: what they give in abstract terms, and that the model agrees. -/
namespace Go.Eng

structure TI where
  desc : TypeDesc
  sz : Nat
  bytes : Nat
  zero : Value
  cmp : Bool := false

abbrev TE := List (Nat × TI)

/-- The table of types says what the program's table says. -/
def TE.ok (P : Program) (te : TE) : Prop := ∀ t ti, lk te t = some ti → P.underlying t = some ti.desc ∧ (∃ i, P.info? t = some i ∧ i.size = ti.sz ∧ i.bytes = ti.bytes ∧ i.zero = some ti.zero) ∧
  (ti.cmp = true → P.stoodInHeld t = false ∧ P.eqGuardType P.depth t = false ∧ ∀ fs, ti.desc = .struct fs → ∀ f ∈ fs.toList, f.name ≠ "_")

def isAggD : TypeDesc → Bool
  | .struct _ => true
  | .array _ _ => true
  | _ => false

def inR : IntKind → Int → Prop
  | .i8, n => -128 ≤ n ∧ n ≤ 127
  | .i16, n => -32768 ≤ n ∧ n ≤ 32767
  | .i32, n => -2147483648 ≤ n ∧ n ≤ 2147483647
  | .i64, n => -9223372036854775808 ≤ n ∧ n ≤ 9223372036854775807
  | .u8, n => 0 ≤ n ∧ n ≤ 255
  | .u16, n => 0 ≤ n ∧ n ≤ 65535
  | .u32, n => 0 ≤ n ∧ n ≤ 4294967295
  | .u64, n => 0 ≤ n ∧ n ≤ 18446744073709551615

theorem wrap_in {k : IntKind} {n : Int} (h : inR k n) : k.wrap n = n := by
  cases k <;> simp only [inR] at h <;> simp [IntKind.wrap, IntKind.bits, IntKind.signed] <;> omega


def avc : Value → Option AV
  | .bool b => some (.bool b)
  | .int k n => some (.int k n)
  | .string s => some (.str s.data.toList)
  | .pointer none => some .nilptr
  | .slice none 0 0 => some .nil
  | .map none => some .nilmap
  | .nilFunc => some .nilfunc
  | .nilIface => some .nilIface
  | _ => none

theorem avc_sound {w : World} {M : Nat → Prop} {bs : Nat → Option Hd} {v : Value} {u : AV} (h : avc v = some u) : V w M bs v u := by
  unfold avc at h
  split at h <;> simp only [Option.some.injEq, reduceCtorEq] at h <;> subst h
  · exact .bool
  · exact .int
  · exact .str rfl
  · exact .nilptr
  · exact .nil
  · exact .nilmap
  · exact .nilfunc
  · exact .nilIface

theorem avc_one {v : Value} {u : AV} (h : avc v = some u) : v.oneCell' = true := by
  unfold avc at h
  split at h <;> first | rfl | cases h

def evO (T : Nat → Option AV) : Operand → Option AV
  | .tmp t => T t
  | .const v => avc v
  | .func f => some (.func f [])
  | .global _ => none

theorem evO_sound {w : World} {M : Nat → Prop} {bs : Nat → Option Hd} {N : Nat} {T : Nat → Option AV} {a : Act} (hF : FRep w M bs N T a) {x : Operand} {u : AV} (h : evO T x = some u) : V w M bs (a.eval x) u := by
  cases x with
  | tmp t =>
    obtain ⟨v, hv, hV⟩ := hF.2.2 t u h
    simp only [Act.eval, Array.getD_eq_getD_getElem?, hv, Option.getD_some]
    exact hV
  | const v => exact avc_sound h
  | func f =>
    simp only [evO, Option.some.injEq] at h
    subst h
    exact .func (caps := #[]) rfl (fun j v u h => by simp at h)
  | global g => cases h

def takeN {α : Type} : Nat → List α → Option (List α)
  | 0, _ => some []
  | _ + 1, [] => none
  | n + 1, x :: l => match takeN n l with
    | some r => some (x :: r)
    | none => none

theorem takeN_eq {α : Type} : ∀ {n : Nat} {l r : List α}, takeN n l = some r → n ≤ l.length ∧ r = l.take n
  | 0, l, r, h => by simp [takeN] at h; subst h; simp
  | n + 1, [], r, h => by simp [takeN] at h
  | n + 1, x :: l, r, h => by
    simp only [takeN] at h
    split at h
    · rename_i r' hr
      have := takeN_eq hr
      simp at h
      subst h
      simp [this.1, this.2]
    · cases h

def dropL {α : Type} : Nat → List α → List α
  | 0, l => l
  | _ + 1, [] => []
  | n + 1, _ :: l => dropL n l

theorem dropL_eq {α : Type} : ∀ (n : Nat) (l : List α), dropL n l = l.drop n
  | 0, l => by simp [dropL]
  | n + 1, [] => by simp [dropL]
  | n + 1, x :: l => by simp [dropL, dropL_eq n l]

/-- The cells that stand behind a pointer, to the end of the variable or element that it points into. -/
def ptrCells (O : Nat → Option AObj) : AV → Option (List AV × Prop)
  | .ptr r off => match O r with
    | some (.cells cs _) => some (dropL off cs, True)
    | _ => none
  | .eptr r sz i off => match O r with
    | some (.row _ sz' n f _) => some (dropL off (f i), i < n ∧ sz = sz')
    | _ => none
  | .vptr g => some (g, True)
  | _ => none

def PCells (w : World) (M : Nat → Prop) (bs : Nat → Option Hd) (v : Value) (g : List AV) : Prop :=
  ∃ (ad : Addr) (cv : Nat → Value), v = .pointer (some ad) ∧ (∀ j, j < g.length → w.cell? (ad.add j) = some (cv j)) ∧ (∀ j, j < g.length → (cv j).oneCell' = true) ∧ ∀ j u, g[j]? = some u → V w M bs (cv j) u

theorem ptrCells_sound {C : Ctx} {E : Ent} {O : Nat → Option AObj} {bs : Nat → Option Hd} {w : World} (hW : WRep C E O bs w) {v : Value} {u : AV} {g : List AV} {vc : Prop}
    (hv : V w (MB E O bs) bs v u) (h : ptrCells O u = some (g, vc)) (hvc : vc) : PCells w (MB E O bs) bs v g := by
  unfold ptrCells at h
  split at h
  · rename_i r off
    split at h
    · rename_i cs t ho
      simp only [Option.some.injEq, Prod.mk.injEq] at h
      obtain ⟨rfl, _⟩ := h
      obtain ⟨b, c, vs, hb, hh, hsz, h1, hV⟩ := hW.obj r _ ho
      cases hv with
      | ptr hb' =>
        rw [hb] at hb'
        injection hb' with hb'
        injection hb' with e1 e2
        subst e1
        refine ⟨_, fun j => vs.getD (off + j) default, rfl, fun j hj => ?_, fun j hj => ?_, fun j x hx => ?_⟩
        · rw [dropL_eq, List.length_drop] at hj
          rw [Addr.add_lit, cell_of_row w b (off + j) vs t (0, 0) hh]
          simp [show off + j < vs.size by omega]
        · rw [dropL_eq, List.length_drop] at hj
          exact h1 (off + j) _ (by simp [show off + j < vs.size by omega])
        · rw [dropL_eq, List.getElem?_drop] at hx
          have hlt : off + j < cs.length := (List.getElem?_eq_some_iff.1 hx).1
          exact hV (off + j) _ x (by simp [show off + j < vs.size by omega]) hx
    · cases h
  · rename_i r sz i off
    split at h
    · rename_i t sz' n f fr ho
      simp only [Option.some.injEq, Prod.mk.injEq] at h
      obtain ⟨rfl, rfl⟩ := h
      obtain ⟨hi, rfl⟩ := hvc
      rcases hW.obj r _ ho with ⟨_, h0⟩ | ⟨b, c, vs, hb, hh, hnc, hcm, hsz, hl, h1, hV⟩
      · omega
      cases hv with
      | eptr hb' =>
        rw [hb] at hb'
        injection hb' with hb'
        injection hb' with e1 e2
        subst e1
        have hlf := hl i hi
        have hle : (i + 1) * sz ≤ c * sz := Nat.mul_le_mul_right _ (by omega)
        rw [Nat.add_mul, Nat.one_mul] at hle
        refine ⟨_, fun j => vs.getD (i * sz + (off + j)) default, rfl, fun j hj => ?_, fun j hj => ?_, fun j x hx => ?_⟩
        · rw [dropL_eq, List.length_drop] at hj
          rw [Addr.add_lit, Nat.add_assoc, cell_of_row w b (i * sz + (off + j)) vs t (0, 0) hh]
          simp [show i * sz + (off + j) < vs.size by omega]
        · rw [dropL_eq, List.length_drop] at hj
          exact h1 i hi (off + j) (by omega) _ (by simp [show i * sz + (off + j) < vs.size by omega])
        · rw [dropL_eq, List.getElem?_drop] at hx
          have hlt : off + j < (f i).length := (List.getElem?_eq_some_iff.1 hx).1
          exact hV i hi (off + j) _ x (by omega) (by simp [show i * sz + (off + j) < vs.size by omega]) hx
    · cases h
  · simp only [Option.some.injEq, Prod.mk.injEq] at h
    obtain ⟨rfl, _⟩ := h
    cases hv with
    | vptr cv hM hb hc h1 hv => exact ⟨_, cv, rfl, hc, h1, fun j u hu => (hv j u hu).lift⟩
  · cases h

theorem run_loadCellsFrom {P : Program} {w : World} {a : Addr} {cv : Nat → Value} : ∀ (n i : Nat) (acc : Array Value), (∀ j, j < n → w.cell? (a.add (i + j)) = some (cv (i + j))) →
    (loadCellsFrom a i n acc).run P w = .ok (acc ++ ((List.range n).map fun j => cv (i + j)).toArray) w
  | 0, i, acc, h => by simp [loadCellsFrom]
  | n + 1, i, acc, h => by
    have h0 := h 0 (by omega)
    simp only [Nat.add_zero] at h0
    simp only [loadCellsFrom, Sem.run_bind, run_load, h0, Result.andThen_ok]
    rw [run_loadCellsFrom n (i + 1) _ (fun j hj => by have := h (j + 1) (by omega); rwa [show i + (j + 1) = i + 1 + j by omega] at this)]
    congr 1
    rw [List.range_succ_eq_map]
    apply Array.toList_inj.1
    simp [Function.comp_def, Nat.add_assoc, Nat.add_comm 1]

theorem run_loadVar {P : Program} {te : TE} (hte : TE.ok P te) {w : World} {t : TypeId} {ti : TI} (ht : lk te t = some ti) {a : Addr} {cv : Nat → Value} (hc : ∀ j, j < ti.sz → w.cell? (a.add j) = some (cv j))
    (h1 : isAggD ti.desc = false → ti.sz = 1) :
    (loadVar t a).run P w = .ok (if isAggD ti.desc then .agg ((List.range ti.sz).map cv).toArray else cv 0) w := by
  obtain ⟨hu, ⟨i, hi, hs, _, _⟩, _⟩ := hte t ti ht
  have hagg : (isAgg t).run P w = .ok (isAggD ti.desc) w := by
    simp only [isAgg, Sem.run_bind, run_underlying hu, Result.andThen_ok]
    cases ti.desc <;> simp [isAggD]
  have hsz : (sizeOf t).run P w = .ok ti.sz w := by simp [sizeOf, typeInfo, hi, hs]
  simp only [loadVar, Sem.run_bind, hagg, Result.andThen_ok]
  cases hd : isAggD ti.desc with
  | true =>
    simp only [↓reduceIte, Sem.run_bind, hsz, Result.andThen_ok, loadCells]
    rw [run_loadCellsFrom (cv := cv) ti.sz 0 #[] (by simpa using hc)]
    simp
  | false =>
    have := hc 0 (by rw [h1 hd]; omega)
    rw [Addr.add_zero'] at this
    simp [this]

end Go.Eng

/- The engine, part 3: what an operation that writes nothing gives, operation by operation. -/
namespace Go.Eng

/-- The operation's run: a value, the world as it was. -/
def Gives (P : Program) (w : World) (M : Nat → Prop) (bs : Nat → Option Hd) (s : Sem Next) (u : AV) : Prop :=
  ∃ v, s.run P w = .ok (.value v) w ∧ V w M bs v u

/-- Sums, differences, products: an unsigned one wraps, a signed one must fit. -/
def arithA (k : IntKind) (n : Int) : Option (AV × Prop) := match k with
  | .u8 => some (.int .u8 (n % 256), True)
  | .u16 => some (.int .u16 (n % 65536), True)
  | .u32 => some (.int .u32 (n % 4294967296), True)
  | .u64 => some (.int .u64 (n % 18446744073709551616), True)
  | .i8 => some (.int .i8 n, inR .i8 n)
  | .i16 => some (.int .i16 n, inR .i16 n)
  | .i32 => some (.int .i32 n, inR .i32 n)
  | .i64 => some (.int .i64 n, inR .i64 n)

theorem arithA_wrap {k : IntKind} {n : Int} {u : AV} {vc : Prop} (h : arithA k n = some (u, vc)) (hvc : vc) : u = .int k (k.wrap n) := by
  cases k <;> simp only [arithA, Option.some.injEq, Prod.mk.injEq] at h <;> obtain ⟨rfl, rfl⟩ := h
  case u8 | u16 | u32 | u64 => simp [IntKind.wrap, IntKind.bits, IntKind.signed]
  all_goals (rw [wrap_in hvc])

def binA (d : TypeDesc) : BinOp → AV → AV → Option (AV × Prop)
  | .add, .int k a, .int k' b => if k = k' then arithA k (a + b) else none
  | .sub, .int k a, .int k' b => if k = k' then arithA k (a - b) else none
  | .mul, .int k a, .int k' b => if k = k' then arithA k (a * b) else none
  | .quo, .int k a, .int k' b => if k = k' then some (.int k (a.tdiv b), b ≠ 0 ∧ inR k (a.tdiv b)) else none
  | .rem, .int k a, .int k' b => if k = k' then some (.int k (a.tmod b), b ≠ 0) else none
  | .and, .int k a, .int k' b => if k = k' then some (.int k (bits .and k a b), True) else none
  | .or, .int k a, .int k' b => if k = k' then some (.int k (bits .or k a b), True) else none
  | .xor, .int k a, .int k' b => if k = k' then some (.int k (bits .xor k a b), True) else none
  | .shl, .int k a, .int _ b => some (.int k (k.wrap (a * 2 ^ b.toNat)), 0 ≤ b ∧ b ≤ k.bits)
  | .shr, .int k a, .int _ b => some (.int k (a / 2 ^ b.toNat), 0 ≤ b ∧ b ≤ k.bits)
  | .eql, .int k a, .int k' b => if k = k' then some (.bool (decide (a = b)), True) else none
  | .neq, .int k a, .int k' b => if k = k' then some (.bool (!decide (a = b)), True) else none
  | .lss, .int k a, .int k' b => if k = k' then some (.bool (decide (a < b)), True) else none
  | .leq, .int k a, .int k' b => if k = k' then some (.bool (decide (a ≤ b)), True) else none
  | .gtr, .int k a, .int k' b => if k = k' then some (.bool (decide (b < a)), True) else none
  | .geq, .int k a, .int k' b => if k = k' then some (.bool (decide (b ≤ a)), True) else none
  | .add, .str a, .str b => some (.str (a ++ b), a.length + b.length ≤ 9223372036854775807)
  | .eql, .str a, .str b => some (.bool (decide (a = b)), True)
  | .neq, .str a, .str b => some (.bool (!decide (a = b)), True)
  | .lss, .str a, .str b => some (.bool (Op.bytesLess a b), True)
  | .leq, .str a, .str b => some (.bool (Op.bytesLess a b || decide (a = b)), True)
  | .gtr, .str a, .str b => some (.bool (!(Op.bytesLess a b || decide (a = b))), True)
  | .geq, .str a, .str b => some (.bool (!Op.bytesLess a b), True)
  | .eql, .bool a, .bool b => match d with
    | .bool => some (.bool (decide (a = b)), True)
    | _ => none
  | .neq, .bool a, .bool b => match d with
    | .bool => some (.bool (!decide (a = b)), True)
    | _ => none
  | .eql, .ptr _ _, .nilptr => match d with
    | .pointer _ => some (.bool false, True)
    | _ => none
  | .neq, .ptr _ _, .nilptr => match d with
    | .pointer _ => some (.bool true, True)
    | _ => none
  | .eql, .nilIface, .nilIface => match d with
    | .interface _ => some (.bool true, True)
    | _ => none
  | .neq, .nilIface, .nilIface => match d with
    | .interface _ => some (.bool false, True)
    | _ => none
  | .eql, .iface _ _, .nilIface => match d with
    | .interface _ => some (.bool false, True)
    | _ => none
  | .neq, .iface _ _, .nilIface => match d with
    | .interface _ => some (.bool true, True)
    | _ => none
  | _, _, _ => none

theorem tolist_beq {x y : ByteArray} : (x.toList == y.toList) = decide (x.data.toList = y.data.toList) := by
  rw [ByteArray.toList_eq, ByteArray.toList_eq]
  by_cases h : x.data.toList = y.data.toList
  · simp [h]
  · rw [decide_eq_false h]; simpa using h

section
variable {P : Program} (w : World) (n : Nat) {t : TypeId}
theorem eqIn_bool (h : P.underlying t = some .bool) (a b : Bool) : (Op.equalIn (n + 1) t (.bool a) (.bool b)).run P w = .ok (a == b) w := by simp [Op.equalIn, run_underlying h]
theorem eqIn_ptr_nil {e : TypeId} (h : P.underlying t = some (.pointer e)) (a : Addr) : (Op.equalIn (n + 1) t (.pointer (some a)) (.pointer none)).run P w = .ok false w := by simp [Op.equalIn, run_underlying h]
theorem eqIn_nil_nil {m : Array (String × TypeId)} (h : P.underlying t = some (.interface m)) : (Op.equalIn (n + 1) t .nilIface .nilIface).run P w = .ok true w := by simp [Op.equalIn, run_underlying h]
theorem eqIn_iface_nil {m : Array (String × TypeId)} (h : P.underlying t = some (.interface m)) (d : TypeId) (v : Value) : (Op.equalIn (n + 1) t (.iface d v) .nilIface).run P w = .ok false w := by simp [Op.equalIn, run_underlying h]
theorem equal_of {x y : Value} {b : Bool} (h : ∀ n, (Op.equalIn (n + 1) t x y).run P w = .ok b w) : (Op.equal t x y).run P w = .ok b w := h 9999
end

theorem eql_of {P : Program} {w : World} {t : TypeId} {x y : Value} {b : Bool} (he : ∀ w : World, (Op.equal t x y).run P w = .ok b w) (hb : binOp .eql t x y = do pure (.bool (← Op.equal t x y))) : (binOp .eql t x y).run P w = .ok (.bool b) w := by
  simp [hb, he]
theorem neq_of {P : Program} {w : World} {t : TypeId} {x y : Value} {b : Bool} (he : ∀ w : World, (Op.equal t x y).run P w = .ok b w) (hb : binOp .neq t x y = do pure (.bool (!(← Op.equal t x y)))) : (binOp .neq t x y).run P w = .ok (.bool (!b)) w := by
  simp [hb, he]

theorem binA_sound {P : Program} {te : TE} (hte : TE.ok P te) {w : World} {M : Nat → Prop} {bs : Nat → Option Hd} {t : TypeId} {ti : TI} (ht : lk te t = some ti) {op : BinOp} {x y : Value} {a b : AV} {u : AV} {vc : Prop}
    (hx : V w M bs x a) (hy : V w M bs y b) (h : binA ti.desc op a b = some (u, vc)) (hvc : vc) : ∃ v, (binOp op t x y).run P w = .ok v w ∧ V w M bs v u := by
  obtain ⟨hu, _⟩ := hte t ti ht
  unfold binA at h
  split at h
  case h_1 | h_2 | h_3 =>
    split at h
    · rename_i hk; subst hk; cases hx; cases hy
      rw [arithA_wrap h hvc]
      exact ⟨.int _ _, by simp [go_sem], .int⟩
    · cases h
  case h_4 =>
    split at h <;> simp only [Option.some.injEq, Prod.mk.injEq, reduceCtorEq] at h
    obtain ⟨rfl, rfl⟩ := h; rename_i hk; subst hk; cases hx; cases hy
    exact ⟨.int _ _, by simp [go_sem, hvc.1, wrap_in hvc.2], .int⟩
  case h_5 =>
    split at h <;> simp only [Option.some.injEq, Prod.mk.injEq, reduceCtorEq] at h
    obtain ⟨rfl, rfl⟩ := h; rename_i hk; subst hk; cases hx; cases hy
    exact ⟨.int _ _, by simp [go_sem, hvc], .int⟩
  case h_6 | h_7 | h_8 =>
    split at h <;> simp only [Option.some.injEq, Prod.mk.injEq, reduceCtorEq] at h
    obtain ⟨rfl, rfl⟩ := h; rename_i hk; subst hk; cases hx; cases hy
    exact ⟨.int _ _, by simp only [go_sem, Sem.run_pure], .int⟩
  case h_9 =>
    simp only [Option.some.injEq, Prod.mk.injEq] at h
    obtain ⟨rfl, rfl⟩ := h; cases hx; cases hy
    exact ⟨.int _ _, by rw [binOp_shl, shift_shl _ _ _ _ hvc.1 hvc.2]; rfl, .int⟩
  case h_10 =>
    simp only [Option.some.injEq, Prod.mk.injEq] at h
    obtain ⟨rfl, rfl⟩ := h; cases hx; cases hy
    exact ⟨.int _ _, by rw [binOp_shr, shift_shr _ _ _ _ hvc.1 hvc.2]; rfl, .int⟩
  case h_11 | h_12 | h_13 | h_14 | h_15 | h_16 =>
    split at h <;> simp only [Option.some.injEq, Prod.mk.injEq, reduceCtorEq] at h
    obtain ⟨rfl, rfl⟩ := h; rename_i hk; subst hk; cases hx; cases hy
    exact ⟨.bool _, by simp only [go_sem, Sem.run_pure] <;> rfl, .bool⟩
  case h_17 =>
    simp only [Option.some.injEq, Prod.mk.injEq] at h
    obtain ⟨rfl, rfl⟩ := h; cases hx with | str hx => cases hy with | str hy =>
    rename_i s1 s2
    refine ⟨.string (s1 ++ s2), ?_, .str (by rw [← hx, ← hy]; simp)⟩
    have e1 : s1.size = s1.data.toList.length := by simp
    have e2 : s2.size = s2.data.toList.length := by simp
    have : ¬ ((s1.size + s2.size : Nat) : Int) > IntKind.i64.max := by rw [IntKind.max_i64, e1, e2, hx, hy]; omega
    simp [binOp, Op.stringOp]; simp at this; omega
  case h_18 | h_19 | h_20 | h_21 | h_22 | h_23 =>
    simp only [Option.some.injEq, Prod.mk.injEq] at h
    obtain ⟨rfl, rfl⟩ := h; cases hx with | str hx => cases hy with | str hy =>
    subst hx; subst hy
    exact ⟨.bool _, by simp only [binOp, Op.stringOp, Sem.run_pure, tolist_beq] <;> simp only [ByteArray.toList_eq], .bool⟩
  case h_24 =>
    split at h <;> simp only [Option.some.injEq, Prod.mk.injEq, reduceCtorEq] at h
    rename_i hd; obtain ⟨rfl, rfl⟩ := h; rw [hd] at hu; cases hx; cases hy
    exact ⟨.bool _, eql_of (fun w => equal_of w fun n => eqIn_bool w n hu _ _) rfl, .bool⟩
  case h_25 =>
    split at h <;> simp only [Option.some.injEq, Prod.mk.injEq, reduceCtorEq] at h
    rename_i hd; obtain ⟨rfl, rfl⟩ := h; rw [hd] at hu; cases hx; cases hy
    exact ⟨.bool _, neq_of (fun w => equal_of w fun n => eqIn_bool w n hu _ _) rfl, .bool⟩
  case h_26 =>
    split at h <;> simp only [Option.some.injEq, Prod.mk.injEq, reduceCtorEq] at h
    rename_i hd; obtain ⟨rfl, rfl⟩ := h; rw [hd] at hu; cases hx; cases hy
    exact ⟨.bool _, eql_of (fun w => equal_of w fun n => eqIn_ptr_nil w n hu _) rfl, .bool⟩
  case h_27 =>
    split at h <;> simp only [Option.some.injEq, Prod.mk.injEq, reduceCtorEq] at h
    rename_i hd; obtain ⟨rfl, rfl⟩ := h; rw [hd] at hu; cases hx; cases hy
    exact ⟨.bool _, neq_of (fun w => equal_of w fun n => eqIn_ptr_nil w n hu _) rfl, .bool⟩
  case h_28 =>
    split at h <;> simp only [Option.some.injEq, Prod.mk.injEq, reduceCtorEq] at h
    rename_i hd; obtain ⟨rfl, rfl⟩ := h; rw [hd] at hu; cases hx; cases hy
    exact ⟨.bool _, eql_of (fun w => equal_of w fun n => eqIn_nil_nil w n hu) rfl, .bool⟩
  case h_29 =>
    split at h <;> simp only [Option.some.injEq, Prod.mk.injEq, reduceCtorEq] at h
    rename_i hd; obtain ⟨rfl, rfl⟩ := h; rw [hd] at hu; cases hx; cases hy
    exact ⟨.bool _, neq_of (fun w => equal_of w fun n => eqIn_nil_nil w n hu) rfl, .bool⟩
  case h_30 =>
    split at h <;> simp only [Option.some.injEq, Prod.mk.injEq, reduceCtorEq] at h
    rename_i hd; obtain ⟨rfl, rfl⟩ := h; rw [hd] at hu; cases hx; cases hy
    exact ⟨.bool _, eql_of (fun w => equal_of w fun n => eqIn_iface_nil w n hu _ _) rfl, .bool⟩
  case h_31 =>
    split at h <;> simp only [Option.some.injEq, Prod.mk.injEq, reduceCtorEq] at h
    rename_i hd; obtain ⟨rfl, rfl⟩ := h; rw [hd] at hu; cases hx; cases hy
    exact ⟨.bool _, neq_of (fun w => equal_of w fun n => eqIn_iface_nil w n hu _ _) rfl, .bool⟩
  case h_32 => cases h

end Go.Eng

/- The engine, part 4: fields, indices, slices, lengths; then all operations that write nothing in one function. -/
namespace Go.Eng

section
variable {P : Program} {te : TE} (hte : TE.ok P te) {w : World} {M : Nat → Prop} {bs : Nat → Option Hd}
include hte

theorem run_und {t : TypeId} {ti : TI} (ht : lk te t = some ti) : (underlying t).run P w = .ok ti.desc w := run_underlying (hte t ti ht).1 w
theorem run_size {t : TypeId} {ti : TI} (ht : lk te t = some ti) : (sizeOf t).run P w = .ok ti.sz w := by
  obtain ⟨_, ⟨i, hi, hs, _⟩, _⟩ := hte t ti ht
  simp [sizeOf, typeInfo, hi, hs]
theorem run_zero {t : TypeId} {ti : TI} (ht : lk te t = some ti) : (zeroValue t).run P w = .ok ti.zero w := by
  obtain ⟨_, ⟨i, hi, _, _, hz⟩, _⟩ := hte t ti ht
  simp [zeroValue, typeInfo, hi, hz]
end

def fieldOf (te : TE) (t : TypeId) (k : Nat) : Option Field :=
  match lk te t with
  | some ti => match ti.desc with
    | .struct fs => fs.toList[k]?
    | _ => none
  | none => none

/-- The address of a field. -/
def fieldA (te : TE) (t : TypeId) (u : AV) (k : Nat) : Option AV :=
  match fieldOf te t k with
  | some f => match lk te f.type with
    | some ti => match ti.sz with
      | 0 => none
      | _ + 1 => match u with
        | .ptr r off => some (.ptr r (off + f.offset))
        | .eptr r sz i off => some (.eptr r sz i (off + f.offset))
        | .vptr g => some (.vptr (dropL f.offset g))
        | _ => none
    | none => none
  | none => none

theorem add_add (a : Addr) (i j : Nat) : (a.add i).add j = a.add (i + j) := by
  unfold Addr.add
  by_cases hi : i = 0 <;> by_cases hj : j = 0 <;> simp [hi, hj, Nat.add_assoc]

theorem V.vdrop {w : World} {M : Nat → Prop} {bs : Nat → Option Hd} {ad : Addr} {g : List AV} (k : Nat) (h : V w M bs (.pointer (some ad)) (.vptr g)) : V w M bs (.pointer (some (ad.add k))) (.vptr (dropL k g)) := by
  cases h with
  | vptr cv hM hb hc h1 hv =>
    rw [dropL_eq]
    refine .vptr (fun j => cv (k + j)) (by rw [block_add]; exact hM) (by rw [block_add]; exact hb) (fun j hj => ?_) (fun j hj => ?_) (fun j u hu => ?_)
    · rw [List.length_drop] at hj
      rw [add_add]; exact hc _ (by omega)
    · rw [List.length_drop] at hj
      exact h1 _ (by omega)
    · rw [List.getElem?_drop] at hu
      exact hv _ _ hu

theorem fieldA_sound {P : Program} {te : TE} (hte : TE.ok P te) {w : World} {M : Nat → Prop} {bs : Nat → Option Hd} {t : TypeId} {k : Nat} {x : Value} {a u : AV} (hx : V w M bs x a) (h : fieldA te t a k = some u) :
    ∃ v, (Instr.fieldAt t x k).run P w = .ok v w ∧ V w M bs v u := by
  unfold fieldA at h
  split at h
  · rename_i f hf
    split at h
    · rename_i ti hti
      split at h
      · cases h
      · rename_i s hs
        unfold fieldOf at hf
        split at hf
        · rename_i ts hts
          split at hf
          · rename_i fs hfs
            have hu := run_und hte (w := w) hts
            rw [hfs] at hu
            have hf' : fs[k]? = some f := by rw [← hf]; simp
            have hsz := run_size hte (w := w) hti
            have key : ∀ ad, x = .pointer (some ad) → (Instr.fieldAt t x k).run P w = .ok (.pointer (some (ad.add f.offset))) w := by
              intro ad e
              subst e
              simp [Instr.fieldAt, hu, hf', Instr.sureAddr, fieldPlace, hsz, hs]
            split at h <;> simp only [Option.some.injEq, reduceCtorEq] at h <;> subst h
            · cases hx with
              | ptr hb => exact ⟨_, key _ rfl, by rw [Addr.add_lit]; exact .ptr hb⟩
            · cases hx with
              | eptr hb => exact ⟨_, key _ rfl, by rw [Addr.add_lit, Nat.add_assoc]; exact .eptr hb⟩
            · cases hx with
              | vptr cv hM hb hc h1 hv => exact ⟨_, key _ rfl, V.vdrop _ (.vptr cv hM hb hc h1 hv)⟩
          · cases hf
        · cases hf
    · cases h
  · cases h

/-- The address of an element. -/
def indexA (te : TE) (t : TypeId) (u : AV) (k : Int) : Option (AV × Prop) :=
  match lk te t with
  | some ti => match ti.desc with
    | .slice e => match lk te e with
      | some te' => match u with
        | .view sz n f => some (.vptr (f k.toNat), 0 ≤ k ∧ k < n ∧ sz = te'.sz)
        | .own r n => some (.eptr r te'.sz k.toNat 0, 0 ≤ k ∧ k < n)
        | .sub r sz off n => some (.eptr r te'.sz (off + k.toNat) 0, 0 ≤ k ∧ k < n ∧ sz = te'.sz)
        | _ => none
      | none => none
    | .array len e => match lk te e with
      | some te' => match u with
        | .ptr r off => some (.ptr r (off + k.toNat * te'.sz), 0 ≤ k ∧ k < len)
        | _ => none
      | none => none
    | _ => none
  | none => none

theorem indexA_sound {P : Program} {te : TE} (hte : TE.ok P te) {w : World} {M : Nat → Prop} {bs : Nat → Option Hd} {t : TypeId} {kd : IntKind} {k : Int} {x : Value} {a u : AV} {vc : Prop} (hx : V w M bs x a)
    (h : indexA te t a k = some (u, vc)) (hvc : vc) : ∃ v, (Instr.indexAt t x (.int kd k)).run P w = .ok v w ∧ V w M bs v u := by
  unfold indexA at h
  split at h
  · rename_i ti hti
    split at h
    · rename_i e he
      split at h
      · rename_i te' hte'
        have hu := run_und hte (w := w) hti
        rw [he] at hu
        have hsz := run_size hte (w := w) hte'
        have key : ∀ ad n c, x = .slice (some ad) n c → 0 ≤ k → k < n → (Instr.indexAt t x (.int kd k)).run P w = .ok (.pointer (some (ad.add (k.toNat * te'.sz)))) w := by
          intro ad n c ex h0 h1
          subst ex
          simp [Instr.indexAt, hu, asIntOf, h0, h1, hsz]
        split at h <;> simp only [Option.some.injEq, Prod.mk.injEq, reduceCtorEq] at h <;> obtain ⟨rfl, rfl⟩ := h
        · rename_i sz n f
          obtain ⟨h0, h1, rfl⟩ := hvc
          cases hx with
          | view ad cv hn hcm hA hl hc h1' hv =>
            obtain ⟨rfl, hM, hb⟩ := hA (by omega)
            have hk : k.toNat < n := by omega
            have hlen := hl _ hk
            refine ⟨_, key _ _ _ rfl h0 h1, .vptr (cv k.toNat) (by rw [block_add]; exact hM) (by rw [block_add]; exact hb) (fun j hj => ?_) (fun j hj => ?_) (fun j u hu => hv _ hk _ _ hu)⟩
            · rw [add_add]; exact hc _ hk _ (by omega)
            · exact h1' _ hk _ (by omega)
        · rename_i r n
          cases hx with
          | own hb hn hcm =>
            refine ⟨_, key _ _ _ rfl hvc.1 hvc.2, ?_⟩
            rw [Addr.add_lit, Nat.zero_add]
            exact .eptr (off := 0) hb
          | ownnil hb hn => omega
        · rename_i r sz off n
          obtain ⟨h0, h1, rfl⟩ := hvc
          cases hx with
          | sub hb hn hcm hA =>
            obtain rfl := hA (by omega)
            refine ⟨_, key _ _ _ rfl h0 h1, ?_⟩
            rw [Addr.add_lit, ← Nat.add_mul]
            exact .eptr (off := 0) hb
          | subnil hb hn ho => omega
      · cases h
    · rename_i len e he
      split at h
      · rename_i te' hte'
        have hu := run_und hte (w := w) hti
        rw [he] at hu
        have hsz := run_size hte (w := w) hte'
        split at h <;> simp only [Option.some.injEq, Prod.mk.injEq, reduceCtorEq] at h
        obtain ⟨rfl, rfl⟩ := h
        cases hx with
        | ptr hb =>
          refine ⟨_, ?_, .ptr hb⟩
          simp [Instr.indexAt, hu, asIntOf, hvc.1, hvc.2, hsz, Instr.sureAddr, Addr.add_lit]
      · cases h
    · cases h
  · cases h

/-- Slicing: the bounds are abstract integers, or none. -/
def boundA : Option AV → Option (Option Int)
  | none => some none
  | some (.int _ k) => some (some k)
  | _ => none

def sliceA (te : TE) (t : TypeId) (u : AV) (lo hi mx : Option AV) : Option (AV × Prop) :=
  match lk te t with
  | some ti => match boundA lo, boundA hi, boundA mx with
    | some lo, some hi, some none => match ti.desc, u with
      | .string, .str s => match lo, hi with
        | none, none => some (.str s, True)
        | none, some h => some (.str (s.take h.toNat), 0 ≤ h ∧ h ≤ s.length)
        | some l, none => some (.str (s.drop l.toNat), 0 ≤ l ∧ l ≤ s.length)
        | some l, some h => some (.str ((s.take h.toNat).drop l.toNat), 0 ≤ l ∧ l ≤ h ∧ h ≤ s.length)
      | .slice e, .view sz n f => match lk te e with
        | some te' => match lo, hi with
          | none, none => some (.view sz n f, True)
          | none, some h => some (.view sz h.toNat f, 0 ≤ h ∧ h ≤ n)
          | some l, none => some (.view sz (n - l.toNat) (fun i => f (l.toNat + i)), 0 ≤ l ∧ l ≤ n ∧ sz = te'.sz)
          | some l, some h => some (.view sz (h.toNat - l.toNat) (fun i => f (l.toNat + i)), 0 ≤ l ∧ l ≤ h ∧ h ≤ n ∧ sz = te'.sz)
        | none => none
      | .slice e, .own r n => match lk te e with
        | some te' => match lo, hi with
          | none, none => some (.own r n, True)
          | none, some h => some (.own r h.toNat, 0 ≤ h ∧ h ≤ n)
          | some l, none => some (.sub r te'.sz l.toNat (n - l.toNat), 0 ≤ l ∧ l ≤ n)
          | some l, some h => some (.sub r te'.sz l.toNat (h.toNat - l.toNat), 0 ≤ l ∧ l ≤ h ∧ h ≤ n)
        | none => none
      | .slice e, .nil => match lk te e with
        | some _ => match lo, hi with
          | none, none => some (.nil, True)
          | none, some h => some (.nil, h = 0)
          | some l, none => some (.nil, l = 0)
          | some l, some h => some (.nil, l = 0 ∧ h = 0)
        | none => none
      | _, _ => none
    | some (some l), some (some h), some (some m) => match ti.desc with
      | .slice e => match lk te e with
       | none => none
       | some _ => match u with
        | .view _ _ _ => some (.empty, l = 0 ∧ h = 0 ∧ m = 0)
        | .own _ _ => some (.empty, l = 0 ∧ h = 0 ∧ m = 0)
        | .nil => some (.empty, l = 0 ∧ h = 0 ∧ m = 0)
        | _ => none
      | _ => none
    | _, _, _ => none
  | none => none

theorem run_bound {P : Program} {w : World} {k : IntKind} {i : Int} {y : Nat} {c : BoundsCode} (h0 : 0 ≤ i) (h1 : i ≤ y) : (Instr.sliceBound (.int k i) y c).run P w = .ok i.toNat w := by
  simp [Instr.sliceBound, asIntOf, h0, h1]

/-- The bounds in order, whichever of them are given. -/
theorem run_bounds {P : Program} {w : World} {isS : Bool} {len cap : Nat} {lo hi : Option Value} {l h : Option Int}
    (hlo : ∀ v, lo = some v → ∃ k i, v = .int k i ∧ l = some i) (hlo' : lo = none → l = none) (hhi : ∀ v, hi = some v → ∃ k i, v = .int k i ∧ h = some i) (hhi' : hi = none → h = none)
    (h1 : 0 ≤ l.getD 0) (h2 : l.getD 0 ≤ h.getD len) (h3 : h.getD len ≤ cap) :
    (Instr.sliceBounds isS len cap lo hi none).run P w = .ok ((l.getD 0).toNat, (h.getD len).toNat, cap) w := by
  cases hi with
  | none =>
    obtain rfl := hhi' rfl
    cases lo with
    | none =>
      obtain rfl := hlo' rfl
      simp [Instr.sliceBounds]
    | some v =>
      obtain ⟨k, i, rfl, rfl⟩ := hlo v rfl
      simp only [Option.getD_some, Option.getD_none] at h1 h2 h3 ⊢
      simp [Instr.sliceBounds, run_bound h1 h2]
  | some u =>
    obtain ⟨k', i', rfl, rfl⟩ := hhi u rfl
    cases lo with
    | none =>
      obtain rfl := hlo' rfl
      simp only [Option.getD_some, Option.getD_none] at h1 h2 h3 ⊢
      simp [Instr.sliceBounds, run_bound (show 0 ≤ i' by omega) h3]
    | some v =>
      obtain ⟨k, i, rfl, rfl⟩ := hlo v rfl
      simp only [Option.getD_some] at h1 h2 h3 ⊢
      simp [Instr.sliceBounds, run_bound (show 0 ≤ i' by omega) h3, run_bound (y := i'.toNat) h1 (by omega)]

theorem boundA_sound {w : World} {M : Nat → Prop} {bs : Nat → Option Hd} {lo : Option Value} {a : Option AV} {l : Option Int} (h : boundA a = some l) (hv : ∀ v, lo = some v → ∃ u, a = some u ∧ V w M bs v u) (hn : lo = none → a = none) :
    (∀ v, lo = some v → ∃ k i, v = .int k i ∧ l = some i) ∧ (lo = none → l = none) := by
  cases lo with
  | none =>
    obtain rfl := hn rfl
    simp only [boundA, Option.some.injEq] at h
    exact ⟨fun v hv => (by cases hv), fun _ => h.symm⟩
  | some v =>
    refine ⟨fun v' hv' => ?_, fun hh => by cases hh⟩
    cases hv'
    obtain ⟨u, rfl, hV⟩ := hv v rfl
    cases u with
    | int k i =>
      simp only [boundA, Option.some.injEq] at h
      cases hV
      exact ⟨_, _, rfl, h.symm⟩
    | _ => simp [boundA] at h

theorem V.vcut {w : World} {M : Nat → Prop} {bs : Nat → Option Hd} {A : Option Addr} {n c sz : Nat} {f : Nat → List AV} (h : V w M bs (.slice A n c) (.view sz n f)) {l m : Nat} (hl : l ≤ m) (hm : m ≤ n) :
    V w M bs (.slice (if c = l then A else A.map (·.add (l * sz))) (m - l) (c - l)) (.view sz (m - l) fun i => f (l + i)) := by
  cases h with
  | view ad cv hn hcm hA hlen hc h1 hv =>
    refine .view (ad.add (l * sz)) (fun i => cv (l + i)) (by omega) (by omega) (fun h0 => ?_) (fun i hi => hlen _ (by omega)) (fun i hi j hj => ?_) (fun i hi j hj => h1 _ (by omega) _ hj) (fun i hi j u hu => hv _ (by omega) _ _ hu)
    · obtain ⟨rfl, hM, hb⟩ := hA (by omega)
      exact ⟨by rw [if_neg (by omega)]; rfl, by rw [block_add]; exact hM, by rw [block_add]; exact hb⟩
    · rw [add_add]
      have := hc (l + i) (by omega) j hj
      rwa [Nat.add_mul, Nat.add_assoc] at this

theorem V.vless {w : World} {M : Nat → Prop} {bs : Nat → Option Hd} {A : Option Addr} {n c sz : Nat} {f : Nat → List AV} (h : V w M bs (.slice A n c) (.view sz n f)) {m : Nat} (hm : m ≤ n) :
    V w M bs (.slice A m c) (.view sz m f) := by
  cases h with
  | view ad cv hn hcm hA hlen hc h1 hv =>
    exact .view ad cv (by omega) hcm (fun h0 => hA (by omega)) (fun i hi => hlen _ (by omega)) (fun i hi j hj => hc _ (by omega) _ hj) (fun i hi j hj => h1 _ (by omega) _ hj) (fun i hi j u hu => hv _ (by omega) _ _ hu)

theorem sliceA_sound {P : Program} {te : TE} (hte : TE.ok P te) {w : World} {M : Nat → Prop} {bs : Nat → Option Hd} {t : TypeId} {x : Value} {a u : AV} {vc : Prop} {lo hi mx : Option Value} {al ah am : Option AV} (hx : V w M bs x a)
    (hl : ∀ v, lo = some v → ∃ u, al = some u ∧ V w M bs v u) (hl' : lo = none → al = none) (hh : ∀ v, hi = some v → ∃ u, ah = some u ∧ V w M bs v u) (hh' : hi = none → ah = none)
    (hm : ∀ v, mx = some v → ∃ u, am = some u ∧ V w M bs v u) (hm' : mx = none → am = none)
    (h : sliceA te t a al ah am = some (u, vc)) (hvc : vc) : ∃ v, (Instr.sliceAt t x lo hi mx).run P w = .ok v w ∧ V w M bs v u := by
  unfold sliceA at h
  split at h
  case h_2 => cases h
  rename_i ti hti
  have hu := run_und hte (w := w) hti
  split at h
  case h_3 => cases h
  · rename_i l h' e1 e2 e3
    obtain ⟨bl, bl'⟩ := boundA_sound e1 hl hl'
    obtain ⟨bh, bh'⟩ := boundA_sound e2 hh hh'
    obtain ⟨bm, bm'⟩ := boundA_sound e3 hm hm'
    have hmx : mx = none := by
      cases mx with
      | none => rfl
      | some v => obtain ⟨k, i, _, hc⟩ := bm v rfl; cases hc
    subst hmx
    split at h
    · rename_i s hd
      rw [hd] at hu
      cases hx with
      | str hs =>
        rename_i b
        have hlen : b.size = s.length := by rw [← hs]; simp
        have key : 0 ≤ l.getD 0 → l.getD 0 ≤ h'.getD s.length → h'.getD s.length ≤ s.length →
            (Instr.sliceAt t (.string b) lo hi none).run P w = .ok (.string (b.extract (l.getD 0).toNat (h'.getD s.length).toNat)) w := by
          intro k1 k2 k3
          have := run_bounds (P := P) (w := w) (isS := false) (len := b.size) (cap := b.size) bl bl' bh bh' k1 (by rw [hlen]; exact k2) (by rw [hlen]; exact k3)
          rw [← hlen]
          simp [Instr.sliceAt, hu, Instr.slice, this]
        have ext : ∀ i j, (b.extract i j).data.toList = (s.take j).drop i := by
          intro i j
          rw [← hs]
          simp [ByteArray.data_extract, Array.toList_extract, List.extract_eq_take_drop, List.drop_take]
        split at h <;> simp only [Option.some.injEq, Prod.mk.injEq] at h <;> obtain ⟨rfl, rfl⟩ := h
        · refine ⟨_, key (by simp) (by simp) (by simp), .str ?_⟩
          rw [ext]; simp
        · simp only [Option.getD_none, Option.getD_some] at key
          refine ⟨_, key (by omega) (by omega) (by omega), .str ?_⟩
          rw [ext]; simp
        · simp only [Option.getD_none, Option.getD_some] at key
          refine ⟨_, key (by omega) (by omega) (by omega), .str ?_⟩
          rw [ext]; simp
        · simp only [Option.getD_some] at key
          refine ⟨_, key (by omega) (by omega) (by omega), .str ?_⟩
          rw [ext]
    · rename_i e sz n f hd
      rw [hd] at hu
      split at h
      case h_2 => cases h
      rename_i te' hte'
      have hsz := run_size hte (w := w) hte'
      have hx' := hx
      cases hx with
      | view ad cv hn hcm hA hlen hc h1 hv =>
        rename_i A c
        have key : 0 ≤ l.getD 0 → l.getD 0 ≤ h'.getD n → h'.getD n ≤ n →
            (Instr.sliceAt t (.slice A n c) lo hi none).run P w = .ok (.slice (if c = (l.getD 0).toNat then A else A.map (·.add ((l.getD 0).toNat * te'.sz))) ((h'.getD n).toNat - (l.getD 0).toNat) (c - (l.getD 0).toNat)) w := by
          intro k1 k2 k3
          have := run_bounds (P := P) (w := w) (isS := true) (len := n) (cap := c) bl bl' bh bh' k1 k2 (by omega)
          simp [Instr.sliceAt, hu, Instr.slice, this, hsz]
        split at h <;> simp only [Option.some.injEq, Prod.mk.injEq] at h <;> obtain ⟨rfl, rfl⟩ := h
        · refine ⟨_, key (by simp) (by simp) (by simp), ?_⟩
          simpa [Addr.add_zero'] using hx'
        · simp only [Option.getD_none, Option.getD_some] at key
          refine ⟨_, key (by omega) (by omega) (by omega), ?_⟩
          simp only [Int.toNat_zero, Nat.zero_mul, Addr.add_zero', Option.map_id', ite_self, Nat.sub_zero]
          exact hx'.vless (by omega)
        · obtain ⟨v1, v2, rfl⟩ := hvc
          simp only [Option.getD_none, Option.getD_some] at key
          refine ⟨_, key (by omega) (by omega) (by omega), ?_⟩
          exact hx'.vcut (m := n) (by omega) (Nat.le_refl _)
        · obtain ⟨v1, v2, v3, rfl⟩ := hvc
          simp only [Option.getD_some] at key
          refine ⟨_, key (by omega) (by omega) (by omega), ?_⟩
          exact hx'.vcut (by omega) (by omega)
    · rename_i e r n hd
      rw [hd] at hu
      split at h
      case h_2 => cases h
      rename_i te' hte'
      have hsz := run_size hte (w := w) hte'
      have key : ∀ A c, x = .slice A n c → n ≤ c → 0 ≤ l.getD 0 → l.getD 0 ≤ h'.getD n → h'.getD n ≤ n →
          (Instr.sliceAt t x lo hi none).run P w = .ok (.slice (if c = (l.getD 0).toNat then A else A.map (·.add ((l.getD 0).toNat * te'.sz))) ((h'.getD n).toNat - (l.getD 0).toNat) (c - (l.getD 0).toNat)) w := by
        intro A c ex hn k1 k2 k3
        subst ex
        have := run_bounds (P := P) (w := w) (isS := true) (len := n) (cap := c) bl bl' bh bh' k1 k2 (by omega)
        simp [Instr.sliceAt, hu, Instr.slice, this, hsz]
      cases hx with
      | own hb hn hcm =>
        rename_i b c
        replace key := key _ _ rfl hn
        split at h <;> simp only [Option.some.injEq, Prod.mk.injEq] at h <;> obtain ⟨rfl, rfl⟩ := h
        · refine ⟨_, key (by simp) (by simp) (by simp), ?_⟩
          simpa [Addr.add_zero'] using V.own (w := w) (M := M) hb hn hcm
        · simp only [Option.getD_none, Option.getD_some] at key
          refine ⟨_, key (by omega) (by omega) (by omega), ?_⟩
          simp only [Int.toNat_zero, Nat.zero_mul, Addr.add_zero', Nat.sub_zero, Option.map_some, ite_self]
          exact .own hb (by omega) hcm
        · simp only [Option.getD_none, Option.getD_some] at key
          refine ⟨_, key (by omega) (by omega) (by omega), ?_⟩
          rw [Int.toNat_natCast]
          exact .sub hb (by omega) hcm (fun h0 => by rw [if_neg (by omega)]; simp [Addr.add_lit])
        · simp only [Option.getD_some] at key
          refine ⟨_, key (by omega) (by omega) (by omega), ?_⟩
          exact .sub hb (by omega) hcm (fun h0 => by rw [if_neg (by omega)]; simp [Addr.add_lit])
      | ownnil hb hn =>
        rename_i A
        subst hn
        replace key := key _ _ rfl (Nat.le_refl _)
        split at h <;> simp only [Option.some.injEq, Prod.mk.injEq] at h <;> obtain ⟨rfl, rfl⟩ := h
        · refine ⟨_, key (by simp) (by simp) (by simp), ?_⟩
          simpa using V.ownnil hb rfl
        · simp only [Option.getD_none, Option.getD_some] at key
          refine ⟨_, key (by omega) (by omega) (by omega), ?_⟩
          simp only [Int.toNat_zero, Nat.zero_mul, Addr.add_zero', Nat.sub_zero, ite_true]
          rw [show Int.toNat _ = 0 from by omega]
          exact .ownnil hb rfl
        · simp only [Option.getD_none, Option.getD_some] at key
          refine ⟨_, key (by omega) (by omega) (by omega), ?_⟩
          rename_i l0
          have e : l0.toNat = 0 := by omega
          simp only [e, ite_true]
          exact .subnil hb rfl rfl
        · simp only [Option.getD_some] at key
          refine ⟨_, key (by omega) (by omega) (by omega), ?_⟩
          rename_i l0 h0
          have e : l0.toNat = 0 := by omega
          have e' : h0.toNat = 0 := by omega
          simp only [e, e', ite_true]
          exact .subnil hb rfl rfl
    · rename_i e hd
      rw [hd] at hu
      split at h
      case h_2 => cases h
      rename_i te' hte'
      have hsz := run_size hte (w := w) hte'
      cases hx
      have key : l.getD 0 = 0 → h'.getD 0 = 0 → (Instr.sliceAt t (.slice none 0 0) lo hi none).run P w = .ok (.slice none 0 0) w := by
        intro k1 k2
        have := run_bounds (P := P) (w := w) (isS := true) (len := 0) (cap := 0) bl bl' bh bh' (by omega) (by show l.getD 0 ≤ h'.getD 0; omega) (by show h'.getD 0 ≤ 0; omega)
        rw [show ((0 : Nat) : Int) = 0 from rfl, k1, k2] at this
        simp [Instr.sliceAt, hu, Instr.slice, this, hsz]
      split at h <;> simp only [Option.some.injEq, Prod.mk.injEq] at h <;> obtain ⟨rfl, rfl⟩ := h
      · exact ⟨_, key rfl rfl, .nil⟩
      · exact ⟨_, key rfl (by simpa using hvc), .nil⟩
      · exact ⟨_, key (by simpa using hvc) rfl, .nil⟩
      · exact ⟨_, key (by simpa using hvc.1) (by simpa using hvc.2), .nil⟩
    · cases h
  · rename_i l h' m e1 e2 e3
    obtain ⟨bl, bl'⟩ := boundA_sound e1 hl hl'
    obtain ⟨bh, bh'⟩ := boundA_sound e2 hh hh'
    obtain ⟨bm, bm'⟩ := boundA_sound e3 hm hm'
    have some_of : ∀ {o : Option Value} {i : Int}, (o = none → some i = none) → (∀ v, o = some v → ∃ k j, v = .int k j ∧ some i = some j) → ∃ k, o = some (.int k i) := by
      intro o i h1 h2
      cases o with
      | none => cases h1 rfl
      | some v =>
        obtain ⟨k, j, rfl, e⟩ := h2 v rfl
        injection e with e
        subst e
        exact ⟨k, rfl⟩
    obtain ⟨kl, rfl⟩ := some_of bl' bl
    obtain ⟨kh, rfl⟩ := some_of bh' bh
    obtain ⟨km, rfl⟩ := some_of bm' bm
    split at h
    case h_2 => cases h
    rename_i e hd
    rw [hd] at hu
    split at h
    case h_1 => cases h
    rename_i te' hte'
    have hsz := run_size hte (w := w) hte'
    have key : ∀ A n c, x = .slice A n c → l = 0 ∧ h' = 0 ∧ m = 0 → ∃ v, (Instr.sliceAt t x (some (.int kl l)) (some (.int kh h')) (some (.int km m))).run P w = .ok v w ∧ V w M bs v .empty := by
      rintro A n c rfl ⟨rfl, rfl, rfl⟩
      refine ⟨.slice A 0 0, ?_, .empty⟩
      simp [Instr.sliceAt, hu, Instr.slice, Instr.sliceBounds, Instr.sliceBound, asIntOf, hsz]
    split at h <;> simp only [Option.some.injEq, Prod.mk.injEq, reduceCtorEq] at h <;> obtain ⟨rfl, rfl⟩ := h
    · cases hx; exact key _ _ _ rfl hvc
    · cases hx <;> exact key _ _ _ rfl hvc
    · cases hx; exact key _ _ _ rfl hvc

end Go.Eng

/- The engine, part 5: structs built and compared; then all operations that write nothing in one function. -/
namespace Go.Eng

/-- A value of a type, by its cells. -/
def CV (w : World) (M : Nat → Prop) (bs : Nat → Option Hd) (ag : Bool) (v : Value) (cs : List AV) : Prop :=
  match ag with
  | true => ∃ vs : Array Value, v = .agg vs ∧ vs.size = cs.length ∧ (∀ (j : Nat) (x : Value), vs[j]? = some x → x.oneCell' = true) ∧ ∀ (j : Nat) x u, vs[j]? = some x → cs[j]? = some u → V w M bs x u
  | false => ∃ u, cs = [u] ∧ V w M bs v u

def eqFieldsA (rc : TypeId → List AV → List AV → Option Bool) (te : TE) (xs ys : List AV) : List Field → Option Bool
  | [] => some true
  | [f] => match lk te f.type with
    | some tf => match takeN tf.sz (dropL f.offset xs), takeN tf.sz (dropL f.offset ys) with
      | some a, some b => rc f.type a b
      | _, _ => none
    | none => none
  | f :: fs => match lk te f.type with
    | some tf => match takeN tf.sz (dropL f.offset xs), takeN tf.sz (dropL f.offset ys) with
      | some a, some b => match rc f.type a b, eqFieldsA rc te xs ys fs with
        | some p, some q => some (p && q)
        | _, _ => none
      | _, _ => none
    | none => none

def eqA (te : TE) : Nat → TypeId → List AV → List AV → Option Bool
  | 0, _, _, _ => none
  | d + 1, t, xs, ys => match lk te t with
    | some ti => match ti.desc with
      | .int _ => match xs, ys with
        | [.int k a], [.int k' b] => if k = k' then some (decide (a = b)) else none
        | _, _ => none
      | .string => match xs, ys with
        | [.str a], [.str b] => some (decide (a = b))
        | _, _ => none
      | .bool => match xs, ys with
        | [.bool a], [.bool b] => some (decide (a = b))
        | _, _ => none
      | .struct fs => match ti.cmp with
        | true => eqFieldsA (eqA te d) te xs ys fs.toList
        | false => none
      | _ => none
    | none => none

theorem run_part {P : Program} {te : TE} (hte : TE.ok P te) {w : World} {M : Nat → Prop} {bs : Nat → Option Hd} {t : TypeId} {ti : TI} (ht : lk te t = some ti) {vs : Array Value} {cs a : List AV} {off : Nat}
    (hn : isAggD ti.desc = false → ti.sz = 1)
    (hsz : vs.size = cs.length) (h1 : ∀ (j : Nat) (x : Value), vs[j]? = some x → x.oneCell' = true) (hV : ∀ (j : Nat) x u, vs[j]? = some x → cs[j]? = some u → V w M bs x u) (h : takeN ti.sz (dropL off cs) = some a) :
    ∃ v, (part t vs off).run P w = .ok v w ∧ CV w M bs (isAggD ti.desc) v a := by
  obtain ⟨hl, rfl⟩ := takeN_eq h
  rw [dropL_eq] at hl ⊢
  rw [List.length_drop] at hl
  have hu := run_und hte (w := w) ht
  have hagg : (isAgg t).run P w = .ok (isAggD ti.desc) w := by
    simp only [isAgg, Sem.run_bind, hu, Result.andThen_ok]
    cases ti.desc <;> simp [isAggD]
  cases hd : isAggD ti.desc with
  | true =>
    refine ⟨.agg (vs.extract off (off + ti.sz)), by simp [part, hagg, hd, run_size hte (w := w) ht], _, rfl, ?_, fun j x hx => ?_, fun j x u hx hu => ?_⟩
    · simp; omega
    · rw [Array.getElem?_extract] at hx
      split at hx
      · exact h1 _ _ hx
      · cases hx
    · rw [Array.getElem?_extract] at hx
      rw [List.getElem?_take, List.getElem?_drop] at hu
      split at hx
      · split at hu
        · exact hV _ _ _ hx hu
        · cases hu
      · cases hx
  | false =>
    have hs := hn hd
    have hlt : off < vs.size := by omega
    refine ⟨vs[off], by simp [part, hagg, hd, hlt], cs[off]'(by omega), ?_, hV off _ _ (by simp [hlt]) (by simp [show off < cs.length by omega])⟩
    rw [hs, List.drop_eq_getElem_cons (by omega)]
    rfl

theorem eqFieldsA_sound {P : Program} {te : TE} (hte : TE.ok P te) {w : World} {M : Nat → Prop} {bs : Nat → Option Hd} {n : Nat} {rc : TypeId → List AV → List AV → Option Bool}
    (hn : ∀ t ti, lk te t = some ti → isAggD ti.desc = false → ti.sz = 1)
    (hrc : ∀ t ti x y a b r, lk te t = some ti → CV w M bs (isAggD ti.desc) x a → CV w M bs (isAggD ti.desc) y b → rc t a b = some r → (Op.equalIn n t x y).run P w = .ok r w)
    {vs us : Array Value} {xs ys : List AV} (s1 : vs.size = xs.length) (o1 : ∀ (j : Nat) (x : Value), vs[j]? = some x → x.oneCell' = true) (V1 : ∀ (j : Nat) x u, vs[j]? = some x → xs[j]? = some u → V w M bs x u)
    (s2 : us.size = ys.length) (o2 : ∀ (j : Nat) (x : Value), us[j]? = some x → x.oneCell' = true) (V2 : ∀ (j : Nat) x u, us[j]? = some x → ys[j]? = some u → V w M bs x u) :
    ∀ (fs : List Field) (r : Bool), (∀ f ∈ fs, f.name ≠ "_") → eqFieldsA rc te xs ys fs = some r → (Op.eqFields n vs us fs).run P w = .ok r w
  | [], r, _, h => by simp [eqFieldsA] at h; subst h; simp [Op.eqFields]
  | [f], r, hb, h => by
    simp only [eqFieldsA] at h
    split at h
    · rename_i tf htf
      split at h
      · rename_i a b ha hb'
        obtain ⟨v, hv, cv⟩ := run_part hte htf (hn _ _ htf) s1 o1 V1 ha
        obtain ⟨u, hu, cu⟩ := run_part hte htf (hn _ _ htf) s2 o2 V2 hb'
        have := hrc _ _ _ _ _ _ _ htf cv cu h
        simp only [Op.eqFields, if_pos (hb f (by simp)), Sem.run_bind, hv, hu, this, Result.andThen_ok]
        cases r <;> simp
      · cases h
    · cases h
  | f :: g :: fs, r, hb, h => by
    simp only [eqFieldsA] at h
    split at h
    · rename_i tf htf
      split at h
      · rename_i a b ha hb'
        split at h
        · rename_i p q hp hq
          simp only [Option.some.injEq] at h
          subst h
          obtain ⟨v, hv, cv⟩ := run_part hte htf (hn _ _ htf) s1 o1 V1 ha
          obtain ⟨u, hu, cu⟩ := run_part hte htf (hn _ _ htf) s2 o2 V2 hb'
          have h1 := hrc _ _ _ _ _ _ _ htf cv cu hp
          have h2 := eqFieldsA_sound hte hn hrc s1 o1 V1 s2 o2 V2 (g :: fs) q (fun x hx => hb x (List.mem_cons_of_mem _ hx)) hq
          rw [Op.eqFields]
          simp only [if_pos (hb f (by simp)), Sem.run_bind, hv, hu, h1, Result.andThen_ok]
          cases p <;> simp [h2]
        · cases h
      · cases h
    · cases h

theorem eqA_sound {P : Program} {te : TE} (hte : TE.ok P te) (hn : ∀ t ti, lk te t = some ti → isAggD ti.desc = false → ti.sz = 1) {w : World} {M : Nat → Prop} {bs : Nat → Option Hd} :
    ∀ (d n : Nat) (t : TypeId) (ti : TI) (x y : Value) (a b : List AV) (r : Bool), lk te t = some ti → CV w M bs (isAggD ti.desc) x a → CV w M bs (isAggD ti.desc) y b → eqA te d t a b = some r → (Op.equalIn (d + n) t x y).run P w = .ok r w
  | 0, n, t, ti, x, y, a, b, r, ht, hx, hy, h => by simp [eqA] at h
  | d + 1, n, t, ti, x, y, a, b, r, ht, hx, hy, h => by
    obtain ⟨hu, _, hc⟩ := hte t ti ht
    rw [show d + 1 + n = (d + n) + 1 by omega]
    simp only [eqA, ht] at h
    split at h
    · rename_i k hd
      rw [hd] at hx hy hu
      obtain ⟨u, rfl, hV⟩ := hx
      obtain ⟨u', rfl, hV'⟩ := hy
      split at h
      · rename_i e1 e2
        simp only [List.cons.injEq, and_true] at e1 e2
        subst e1; subst e2
        split at h
        · rename_i hk
          subst hk
          simp only [Option.some.injEq] at h
          subst h
          cases hV; cases hV'
          rw [run_equalIn_int _ _ _ _ _ _ _ hu]
          rfl
        · cases h
      · cases h
    · rename_i hd
      rw [hd] at hx hy hu
      obtain ⟨u, rfl, hV⟩ := hx
      obtain ⟨u', rfl, hV'⟩ := hy
      split at h
      · rename_i e1 e2
        simp only [List.cons.injEq, and_true] at e1 e2
        subst e1; subst e2
        simp only [Option.some.injEq] at h
        subst h
        cases hV with | str e1 => cases hV' with | str e2 =>
        subst e1; subst e2
        rw [run_equalIn_string _ _ _ _ _ hu, tolist_beq]
      · cases h
    · rename_i hd
      rw [hd] at hx hy hu
      obtain ⟨u, rfl, hV⟩ := hx
      obtain ⟨u', rfl, hV'⟩ := hy
      split at h
      · rename_i e1 e2
        simp only [List.cons.injEq, and_true] at e1 e2
        subst e1; subst e2
        simp only [Option.some.injEq] at h
        subst h
        cases hV; cases hV'
        rw [eqIn_bool _ _ hu]
        rfl
      · cases h
    · rename_i fs hd
      rw [hd] at hx hy hu
      split at h
      · rename_i hcmp
        obtain ⟨hp, _, hb⟩ := hc hcmp
        obtain ⟨vs, rfl, s1, o1, V1⟩ := hx
        obtain ⟨us, rfl, s2, o2, V2⟩ := hy
        have hf : P.fieldsOf t = fs := by simp [Program.fieldsOf, hu]
        rw [run_equalIn_struct w (d + n) t vs us (by rw [hf]; exact hu) hp, hf]
        exact eqFieldsA_sound hte hn (fun t ti x y a b r h1 h2 h3 h4 => eqA_sound hte hn d n t ti x y a b r h1 h2 h3 h4) s1 o1 V1 s2 o2 V2 fs.toList r (hb fs hd) h
      · cases h
    · cases h

end Go.Eng

