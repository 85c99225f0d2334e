/- Lemmas that the tied card of ScannerValid is proved by. -/
import Derived.Test.YtokpcnppihgdlaaGreatDoorGh
import Derived.Maps.RangeRun
/- The engine, part 35: the next entry of a map, whichever it is. -/
namespace Go.Eng
open Go.ChangeMaps (setBlock)

theorem AOps.nextMap {C : Ctx} {m N : Nat} {ops : Array Oper} {rest : List Oper} {Q : Exit → St → Prop} {o : Oper} {T : List (Nat × AV)} {O : List (Nat × AObj)} {nx : Nat} {dec : List Nat} {x : Operand} {r mm n0 ty c0 : Nat} {left : List Nat} {es : List (AV × AV)}
    (hg : o.guard = none) (hop : o.op = .next x false) (hd : dstOK N o.dst = true) (hx : evO (lk T) x = some (.ptr r 0)) (hO : lk O r = some (.miter mm n0 (ty :: c0 :: left))) (hM : lk O mm = some (.amap es)) (hn : n0 = es.length)
    (h0 : left = [] → AOps C m N ops rest Q ⟨putT o.dst (.tuple [.bool false]) T, O, nx, dec⟩)
    (hs : ∀ i, i ∈ left → AOps C m N ops rest Q ⟨putT o.dst (.tuple [.bool true, .any, .any]) T, (r, .miter mm n0 (ty :: i :: left.erase i)) :: O, nx, dec⟩) : AOps C m N ops (o :: rest) Q ⟨T, O, nx, dec⟩ := by
  intro E hE bs a w hr
  refine wpList_plain hg fun K hK => ?_
  obtain ⟨⟨hF, hW⟩, hnx, hm⟩ := hr
  obtain ⟨b, c, bm, cm, seen, h1, h2, h3, nd, hlt, hiff, _⟩ := hW.obj r _ hO
  simp only [List.drop_succ_cons, List.drop_zero] at nd hlt hiff
  obtain ⟨bm', cm', ents, clock, g1, g2, hent, hborn⟩ := hW.obj mm _ hM
  rw [h2] at g1
  injection g1 with g1
  injection g1 with e1 e2
  subst e1; subst e2
  have hsz : ents.size = n0 := by rw [hent.1, hn]
  have hev := evO_sound hF hx
  generalize hmx : a.eval x = mv at hev
  have hmv : mv = .pointer (some ⟨b, 0, none⟩) := by
    cases hev with
    | ptr hb =>
      rw [h1] at hb
      injection hb with hb
      injection hb with e1 e2
      subst e1
      rfl
  subst hmv
  have hold : ∀ y ∈ ents.toList, y.born < n0 := by
    intro y hy
    obtain ⟨j, hj⟩ := List.getElem?_of_mem hy
    have hj' : ents[j]? = some y := by simpa using hj
    rw [hborn.2 j y hj', ← hsz]
    exact (Array.getElem?_eq_some_iff.1 hj').1
  rcases run_next_at (P := C.P) w o.type b bm n0 n0 seen ents clock h3 g2 hold (Nat.le_refl _) with ⟨z1, z2⟩ | ⟨e, z1, w1, z2, z3⟩
  · have hl : left = [] := by
      cases hleft : left with
      | nil => rfl
      | cons i l =>
        have hi : i ∈ left := by rw [hleft]; exact List.mem_cons_self ..
        have hin := hlt i hi
        have hin' : i < ents.size := by omega
        have hc := (hiff i hin).1 hi
        have hm : ents[i] ∈ leftOf ents seen := by
          unfold leftOf
          rw [Array.mem_filter]
          refine ⟨by simp, ?_⟩
          rw [hborn.2 i _ (Array.getElem?_eq_getElem hin')]
          simpa using hc
        have : leftOf ents seen = #[] := Array.eq_empty_of_size_eq_zero z1
        rw [this] at hm
        simp at hm
    have run : (execOp a.eval o).run C.P w = .ok (.value (.tuple #[.bool false])) w := by simp [execOp, hop, hmx, z2]
    unfold Oper.wp
    rw [run]
    refine hK _ _ (h0 hl E hE bs _ _ ⟨⟨hF.putT hd (.tuple rfl fun j v u hv hu => ?_), hW⟩, hnx, hm⟩)
    match j with
    | 0 => simp at hv hu; subst hv; subst hu; exact .bool
    | j + 1 => simp at hv
  · unfold leftOf at z1
    have hz := Array.mem_filter.1 (Array.mem_toList_iff.1 z1)
    obtain ⟨i, hi⟩ := Array.getElem?_of_mem hz.1
    have hbi := hborn.2 i e hi
    have hin : i < ents.size := (Array.getElem?_eq_some_iff.1 hi).1
    have hil : i ∈ left := (hiff i (by omega)).2 (by have := hz.2; rw [hbi] at this; simpa using this)
    have run : (execOp a.eval o).run C.P w = .ok (.value (.tuple #[.bool true, e.key, e.val])) (setBlock w1 b (.mapIter (some bm) n0 (seen.push e.born) clock)) := by simp [execOp, hop, hmx, z3]
    have hblt : b < w.heap.size := (Array.getElem?_eq_some_iff.1 h3).1
    have hclk : clock = n0 := by rw [hborn.1, hsz]
    obtain ⟨hS, hW'⟩ := hW.modify (x := r) (o := .miter mm n0 (ty :: i :: left.erase i)) hO rfl h1 (w' := setBlock w1 b (.mapIter (some bm) n0 (seen.push e.born) clock))
      (fun b' hb' => by
        rcases z2 with rfl | rfl
        · simp [setBlock, Ne.symm hb']
        · show (w.heap.setIfInBounds b _)[b']? = _
          simp [Ne.symm hb'])
      (by rcases z2 with rfl | rfl
          · simp [setBlock]
          · show (w.heap.setIfInBounds b _).size = _
            simp)
      (by rcases z2 with rfl | rfl <;> rfl) (by rcases z2 with rfl | rfl <;> exact ⟨rfl, fun _ => by first | exact Nat.le_refl _ | exact Nat.le_succ _⟩) (by rcases z2 with rfl | rfl <;> rfl) rfl
      (fun hS => ⟨b, c, bm, cm, seen.push e.born, h1, h2, by
          rcases z2 with rfl | rfl
          · simp [setBlock, hblt, hclk]
          · show (w.heap.setIfInBounds b _)[b]? = _
            simp [hblt, hclk],
        nd.erase i, fun j hj => hlt j (List.mem_of_mem_erase hj), fun j hj => by
          show j ∈ left.erase i ↔ (seen.push e.born).contains j = false
          rw [nd.mem_erase_iff, hiff j hj, hbi, Array.contains_push]
          by_cases hji : j = i
          · subst hji; simp
          · simp [hji], fun j hj hjn => by
          simp only [List.getElem?_cons_succ, List.getElem?_cons_zero, Option.some.injEq] at hj
          subst hj
          rw [hbi]; simp⟩)
    unfold Oper.wp
    rw [run]
    refine hK _ _ (hs i hil E hE bs _ _ ⟨⟨?_, ?_⟩, fun r' hr' => ⟨?_, (hnx r' hr').2⟩, hm⟩)
    · show FRep _ (MB E (lk ((r, .miter mm n0 (ty :: i :: left.erase i)) :: O)) bs) bs N (lk (putT o.dst _ T)) _
      rw [lk_up]
      refine (hF.step hS).putT hd (.tuple rfl fun j v u hv hu => ?_)
      match j with
      | 0 => simp at hv hu; subst hv; subst hu; exact .bool
      | 1 => simp at hv hu; subst hv; subst hu; exact .any
      | 2 => simp at hv hu; subst hv; subst hu; exact .any
      | j + 3 => simp at hv
    · show WRep C E (lk ((r, .miter mm n0 (ty :: i :: left.erase i)) :: O)) bs _
      rw [lk_up]; exact hW'
    · show lk ((r, .miter mm n0 (ty :: i :: left.erase i)) :: O) r' = none
      rw [lk_cons]
      have hne : ¬ r = r' := fun e => by subst e; have := (hnx r hr').1; rw [hO] at this; cases this
      simp only [hne, if_false]
      exact (hnx r' hr').1

/-- The entry that the last step handed out. -/
theorem OpStep.entry {C : Ctx} {N : Nat} {o : Oper} {T : Nat → Option AV} {O : Nat → Option AObj} {k : Nat} {x : Operand} {r mm n0 ty c0 : Nat} {left : List Nat} {es : List (AV × AV)} {ku vu : AV}
    (hop : o.op = .entry x) (hd : dstOK N o.dst = true) (hx : evO T x = some (.ptr r 0)) (hO : O r = some (.miter mm n0 (ty :: c0 :: left))) (hM : O mm = some (.amap es)) (hn : n0 = es.length) (hc : es[c0]? = some (ku, vu)) :
    OpStep C N o T O k (.tuple [ku, vu]) [] := by
  intro E T' O' bs a w K Q hT hOs hr hf hK
  obtain ⟨b, c, bm, cm, seen, h1, h2, h3, nd, hlt, hiff, hcur⟩ := hr.2.obj r _ (hOs _ _ hO)
  obtain ⟨bm', cm', ents, clock, g1, g2, hent, hborn⟩ := hr.2.obj mm _ (hOs _ _ hM)
  rw [h2] at g1
  injection g1 with g1
  injection g1 with e1 e2
  subst e1; subst e2
  have hlt0 : c0 < es.length := (List.getElem?_eq_some_iff.1 hc).1
  have hsz : ents.size = n0 := by rw [hent.1, hn]
  have hclk : clock = n0 := by rw [hborn.1, hsz]
  have hback := hcur c0 (by simp) (by omega)
  have hin : c0 < ents.size := by omega
  have hei : ents[c0]? = some ents[c0] := Array.getElem?_eq_getElem hin
  have hev := evO_sound hr.1 (evO_mono hT hx)
  generalize hmx : a.eval x = mv at hev
  have hmv : mv = .pointer (some ⟨b, 0, none⟩) := by
    cases hev with
    | ptr hb =>
      rw [h1] at hb
      injection hb with hb
      injection hb with e1 e2
      subst e1
      rfl
  subst hmv
  have hfind : ents.find? (fun y => y.born == c0) = some ents[c0] := by
    rw [Array.find?_eq_some_iff_getElem]
    refine ⟨by rw [hborn.2 c0 _ hei]; simp, c0, hin, rfl, fun j hj => ?_⟩
    have := hborn.2 j _ (Array.getElem?_eq_getElem (by omega : j < ents.size))
    simp [this]
    omega
  have hv : (Instr.entry (.pointer (some ⟨b, 0, none⟩))).run C.P w = .ok (.tuple #[ents[c0].key, ents[c0].val]) w := by
    simp only [Instr.entry, getObj, Sem.run_bind, Sem.run, h3, g2, Result.andThen, hback, hclk, bne_self_eq_false, Bool.false_eq_true, if_false, hfind]
    rfl
  obtain ⟨V1, V2⟩ := hent.2 c0 _ _ hei hc
  have : (execOp a.eval o).run C.P w = .ok (.value (.tuple #[ents[c0].key, ents[c0].val])) w := by simp [execOp, hop, hmx, hv]
  unfold Oper.wp
  rw [this]
  refine hK bs _ _ (fun _ _ => rfl) ⟨hr.1.putF hd (.tuple rfl fun j v u hv hu => ?_), hr.2⟩
  match j with
  | 0 => simp at hv hu; subst hv; subst hu; exact V1
  | 1 => simp at hv hu; subst hv; subst hu; exact V2
  | j + 2 => simp at hv
end Go.Eng
/- The weakest precondition as a function: what is computed. -/
namespace Go.Eng

def condP (b : Bool) (P Q : Prop) : Prop := match b with
  | true => P
  | false => Q

theorem condP_intro {b : Bool} {P Q : Prop} (h1 : b = true → P) (h2 : b = false → Q) : condP b P Q := by
  cases b with
  | true => exact h1 rfl
  | false => exact h2 rfl
theorem condP_elim {b : Bool} {P Q : Prop} (h : condP b P Q) : (b = true → P) ∧ (b = false → Q) := by
  cases b with
  | true => exact ⟨fun _ => h, fun h => (nomatch h)⟩
  | false => exact ⟨fun h => (nomatch h), fun _ => h⟩
@[simp] theorem condP_true {P Q : Prop} : condP true P Q = P := rfl
@[simp] theorem condP_false {P Q : Prop} : condP false P Q = Q := rfl
theorem condP_iff {b : Bool} {P Q : Prop} : condP b P Q ↔ (b = true → P) ∧ (b = false → Q) := ⟨condP_elim, fun h => condP_intro h.1 h.2⟩

/-- What a call gives: its value, the objects behind it, and what must hold before it. -/
abbrev Spec := List AV → List AObj → Option (AV × List (Nat × AObj) × Prop)
/-- The same where what comes is not told: whatever comes, R must hold of it. -/
abbrev RSpec := List AV → List AObj → (AV → List (Nat × AObj) → Prop) → Prop
inductive CSpec where
  | det (S : Spec)
  | rel (S : RSpec)
abbrev LSpec := St → (Exit → St → Prop) → Prop

structure Env where
  te : TE
  calls : List (Nat × CSpec)
  loops : List (Nat × LSpec)
  m : Nat
  N : Nat
  fuel : Nat := 0

mutual
def refsA : AV → List Nat
  | .ptr r _ => [r]
  | .eptr r _ _ _ => [r]
  | .own r _ => [r]
  | .sub r _ _ _ => [r]
  | .map r => [r]
  | .func _ l => refsL l
  | .iface _ v => refsA v
  | .agg l => refsL l
  | .tuple l => refsL l
  | _ => []
def refsL : List AV → List Nat
  | [] => []
  | u :: l => refsA u ++ refsL l
end

/-- What an object refers to. (A variable of a type that is not in the table is not looked into.) -/
def refsO (te : TE) : AObj → List Nat
  | .cells cs t => match lk te t with
    | some _ => refsL cs
    | none => []
  | .miter m _ _ => [m]
  | _ => []

/-- The objects that can be reached, in the order in which they are met. -/
def closeR (te : TE) (O : List (Nat × AObj)) : Nat → List Nat → List Nat → List Nat
  | 0, _, seen => seen
  | _ + 1, [], seen => seen
  | k + 1, r :: todo, seen => match hasN seen r with
    | true => closeR te O k todo seen
    | false => match lk O r with
      | some o => match o.mut with
        | true => closeR te O k (todo ++ refsO te o) (seen ++ [r])
        | false => closeR te O k todo seen
      | none => closeR te O k todo seen

/-- What the rows hold refers to nothing of our own. -/
def rowVC1 : AObj → Prop → Prop
  | .row _ _ n f _, P => (∀ i, i < n → nrefL (f i) = true) ∧ P
  | _, P => P
def rowVC : List (Nat × AObj) → Prop → Prop
  | [], P => P
  | o :: l, P => rowVC1 o.2 (rowVC l P)
def rowVCo : List AObj → Prop → Prop
  | [], P => P
  | o :: l, P => rowVC1 o (rowVCo l P)

def rnO? (σ : Nat → Option Nat) : AObj → Option AObj
  | .cells cs t => some (.cells (AV.rnL σ cs) t)
  | .row t sz n f fr => some (.row t sz n f fr)
  | .amap es => some (.amap (es.map fun p => (p.1.rn σ, p.2.rn σ)))
  | .siter s p => some (.siter s p)
  | .miter m n l => match σ m with
    | some m' => some (.miter m' n l)
    | none => none
  | .dead => some .dead

def objsOf (ρ : Nat → Option Nat) (O : Nat → Option AObj) : List Nat → Option (List AObj)
  | [] => some []
  | r :: l => match O r with
    | some o => match o.mut with
      | true => match rnO? ρ o with
        | some o' => match objsOf ρ O l with
          | some l' => some (o' :: l')
          | none => none
        | none => none
      | false => none
    | none => none

def unsA : Option AV → Bool
  | some (.int .u8 _) => true
  | some (.int .u16 _) => true
  | some (.int .u32 _) => true
  | some (.int .u64 _) => true
  | _ => false

/-- The objects that come back, under the caller's names. -/
def backQ (pass : List Nat) (k : Nat) : List (Nat × AObj) → Option (List (Nat × AObj))
  | [] => some []
  | p :: l => match rnO? (sig pass k) p.2, backQ pass k l with
    | some o, some l' => some ((sigN pass k p.1, o) :: l')
    | _, _ => none

/-- Rows told by other functions that give the same. -/
def RowsEq : List (Nat × AObj) → List (Nat × AObj) → Prop
  | [], [] => True
  | (r, .row t sz n f fr) :: l, (r', .row t' sz' n' f' fr') :: l' => (r = r' ∧ t = t' ∧ sz = sz' ∧ n = n' ∧ fr = fr' ∧ ∀ i, i < n → f i = f' i) ∧ RowsEq l l'
  | p :: l, p' :: l' => p = p' ∧ RowsEq l l'
  | _, _ => False
def hasRow : List (Nat × AObj) → Bool
  | [] => false
  | (_, .row _ _ _ _ _) :: _ => true
  | _ :: l => hasRow l
/-- R of the objects; rows may be told by other functions. -/
def rowR (O : List (Nat × AObj)) (R : List (Nat × AObj) → Prop) : Prop := match hasRow O with
  | true => ∃ O', RowsEq O O' ∧ R O'
  | false => R O

/-- Operations on which nothing is asked. -/
def trivOp (T : Nat → Option AV) : Op → Bool
  | .move _ => true
  | .assign _ => true
  | .pick _ _ _ => true
  | .nilCheck _ => true
  | .unOp .not _ _ => true
  | .fieldAddr _ _ _ => true
  | .field _ _ _ => true
  | .build _ _ => true
  | .extract _ _ => true
  | .makeFunc _ _ _ => true
  | .makeInterface _ _ => true
  | .call _ => true
  | .load _ x => match evO T x with
    | some (.ptr _ _) => true
    | some (.vptr _) => true
    | _ => false
  | .binOp op _ x _ _ => match op with
    | .add => unsA (evO T x)
    | .sub => unsA (evO T x)
    | .mul => unsA (evO T x)
    | .eql => true
    | .neq => true
    | .lss => true
    | .leq => true
    | .gtr => true
    | .geq => true
    | _ => false
  | _ => false

def trivEff (te : TE) (T : Nat → Option AV) : Op → Bool
  | .alloc _ => true
  | .box _ _ => true
  | .makeMap _ _ => true
  | .range _ _ => true
  | .store t x y => match evO T x with
    | some (.ptr _ _) => match evO T y, lk te t with
      | some u, some ti => match cellsA u with
        | some new => Nat.beq new.length ti.sz
        | none => false
      | _, _ => false
    | _ => false
  | _ => false

def vcP (b : Bool) (v P : Prop) : Prop := match b with
  | true => P
  | false => v ∧ P

def namesOK (l : List (Nat × AObj)) (nx : Nat) : Bool := match l with
  | [] => true
  | p :: l => Nat.ble p.1 nx && namesOK l nx

def namesX (l : List (Nat × AObj)) (nx : Nat) : Bool := l.all fun p => Nat.blt p.1 (nx + 16)

abbrev KT := List (Nat × AV) → List (Nat × AObj) → Nat → Prop

/-- A call by its promise. -/
def wpCall (G : Env) (o : Oper) (T : List (Nat × AV)) (O : List (Nat × AObj)) (nx : Nat) (K : KT) : Prop :=
  match o.op with
  | .call { callee := .value fo, args, argTypes := _ } => match evO (lk T) fo with
    | some (.func f cap) => match evL (lk T) args.toList with
      | some as => match lk G.calls f with
        | some (.rel S) => match closeR G.te O 64 (refsL (as ++ cap)) [] with
          | pass => match ndB pass with
            | true => match objsOf (idxN pass) (lk O) pass with
              | some cobjs => rowVCo cobjs (S (AV.rnL (idxN pass) (as ++ cap)) cobjs fun U Os => match ndB (Os.map Prod.fst), backQ pass nx Os with
                | true, some O2 => rowVC Os (K (putT o.dst (U.rn (sig pass nx)) T) (ov O2 (ov (deads pass) O)) (nx + 16))
                | _, _ => False)
              | none => False
            | false => False
        | some (.det S) => match closeR G.te O 64 (refsL (as ++ cap)) [] with
          | pass => match ndB pass with
            | true => match objsOf (idxN pass) (lk O) pass with
              | some cobjs => match S (AV.rnL (idxN pass) (as ++ cap)) cobjs with
                | some (U, Os, vc) => match ndB (Os.map Prod.fst), backQ pass nx Os with
                  | true, some O2 => rowVCo cobjs (vc ∧ rowVC Os (K (putT o.dst (U.rn (sig pass nx)) T) (ov O2 (ov (deads pass) O)) (nx + 16)))
                  | _, _ => False
                | none => False
              | none => False
            | false => False
        | none => False
      | none => False
    | _ => False
  | _ => False

/-- The zeros of a map's keys and values. -/
def nextT (te : TE) (t : TypeId) : Option (AV × AV) := match lk te t with
  | some ti => match ti.desc with
    | .map kt vt => match lk te kt, lk te vt with
      | some tk, some tv => match zeroV tk.zero, zeroV tv.zero with
        | some zk, some zv => some (zk, zv)
        | _, _ => none
      | _, _ => none
    | _ => none
  | none => none

/-- The next entry of a map, whichever it is. -/
def wpNext (o : Oper) (x : Operand) (T : List (Nat × AV)) (O : List (Nat × AObj)) (nx : Nat) (K : KT) : Prop :=
  match evO (lk T) x with
  | some (.ptr r 0) => match lk O r with
    | some (.miter mm n0 (ty :: _ :: left)) => match lk O mm with
      | some (.amap es) => n0 = es.length ∧ (left = [] → K (putT o.dst (.tuple [.bool false]) T) O nx) ∧
          ∀ i : Nat, i ∈ left → K (putT o.dst (.tuple [.bool true, .any, .any]) T) (ov [(r, .miter mm n0 (ty :: i :: left.erase i))] O) nx
      | _ => False
    | _ => False
  | _ => False
/-- The entry that the last step handed out. -/
def wpEntry (G : Env) (o : Oper) (x : Operand) (T : List (Nat × AV)) (O : List (Nat × AObj)) (nx : Nat) (K : KT) : Prop :=
  match evO (lk T) x with
  | some (.ptr r 0) => match lk O r with
    | some (.miter mm n0 (ty :: c :: _)) => match lk O mm, nextT G.te ty with
      | some (.amap es), some (zk, zv) => (n0 = es.length ∧ c < n0 ∧ shapeA zk (es.getD c (.any, .any)).1 = (es.getD c (.any, .any)).1 ∧ shapeA zv (es.getD c (.any, .any)).2 = (es.getD c (.any, .any)).2) ∧
          K (putT o.dst (.tuple [shapeA zk (es.getD c (.any, .any)).1, shapeA zv (es.getD c (.any, .any)).2]) T) O (nx + 16)
      | _, _ => False
    | _ => False
  | _ => False

def wp1 (G : Env) (o : Oper) (T : List (Nat × AV)) (O : List (Nat × AObj)) (nx : Nat) (K : KT) : Prop :=
  match dstOK G.N o.dst with
  | true => match evalPure G.te (lk T) (lk O) o.op with
    | some (u, v) => vcP (trivOp (lk T) o.op) v (K (putT o.dst u T) O nx)
    | none => match evalEff G.te (lk T) (lk O) nx o.op with
      | some (u, l, v) => match namesOK l nx with
        | true => vcP (trivEff G.te (lk T) o.op) v (K (putT o.dst u T) (ov l O) (nx + 1))
        | false => False
      | none => match evalX G.te (lk T) (lk O) nx o.dst o.op with
        | some (b, x1, x2) => match namesX x1.2.1 nx && namesX x2.2.1 nx with
          | true => condP b (x1.2.2 ∧ K (putT o.dst x1.1 T) (ov x1.2.1 O) (nx + 16)) (x2.2.2 ∧ K (putT o.dst x2.1 T) (ov x2.2.1 O) (nx + 16))
          | false => False
        | none => match o.op with
          | .next x false => wpNext o x T O nx K
          | .entry x => wpEntry G o x T O nx K
          | _ => wpCall G o T O nx K
  | false => False

def wpOps (G : Env) (opl : List Oper) (K : St → Prop) : List Oper → KT
  | [], T, O, nx => K ⟨T, O, nx, []⟩
  | o :: rest, T, O, nx => match o.guard with
    | none => wp1 G o T O nx (wpOps G opl K rest)
    | some _ => match gslot opl o with
      | some (d, want) => match lk T d with
        | some (.bool b) => match Nat.blt d G.N && dstOK G.N o.dst with
          | true => condP b
            (match want with
              | true => wp1 G o ((d, .bool true) :: rm d T) O nx (wpOps G opl K rest)
              | false => wpOps G opl K rest (putT o.dst (.tuple []) ((d, .bool true) :: rm d T)) O nx)
            (match want with
              | false => wp1 G o ((d, .bool false) :: rm d T) O nx (wpOps G opl K rest)
              | true => wpOps G opl K rest (putT o.dst (.tuple []) ((d, .bool false) :: rm d T)) O nx)
          | false => False
        | some (.tuple []) => match dstOK G.N o.dst with
          | true => wpOps G opl K rest (putT o.dst (.tuple []) T) O nx
          | false => False
        | _ => False
      | none => False

/-- One operation of a region that draws, as it was met. -/
structure DRow where
  o : Oper
  T : List (Nat × AV)
  O : List (Nat × AObj)
  p : PEnt

def ancOf (rows : List (List Nat)) (o : Oper) : List Nat := o.after.toList.foldr (fun e l => match Region.binds .any e with
  | true => match rows[e.on]? with
    | some a => e.on :: (a ++ l)
    | none => e.on :: l
  | false => l) []

def dedupN : List Nat → List Nat
  | [] => []
  | x :: l => match hasN l x with
    | true => dedupN l
    | false => x :: dedupN l

def ancAll : List Oper → List (List Nat) → List (List Nat)
  | [], rows => rows
  | o :: l, rows => ancAll l (rows ++ [dedupN (ancOf rows o)])

def hidAt (opl : List Oper) (plan : List PEnt) (anc : List (List Nat)) (i : Nat) : List Nat × List Nat :=
  (dedupN ((List.range opl.length).flatMap fun j => match Nat.beq i j || hasN (ancF anc i) j || hasN (ancF anc j) i with
      | true => []
      | false => match dstF opl j with
        | some d => [d]
        | none => []),
   dedupN ((List.range opl.length).flatMap fun j => match Nat.beq i j || hasN (ancF anc i) j || hasN (ancF anc j) i with
      | true => []
      | false => dom plan j))

/-- Does the operation look only at what is not hidden? -/
def looks2 (te : TE) (h : List Nat × List Nat) (k : Nat) (o : Oper) (T : List (Nat × AV)) (O : List (Nat × AObj)) : Bool :=
  match evalPure te (hide h.1 (lk T)) (hide h.2 (lk O)) o.op with
  | some _ => true
  | none => match evalPure te (lk T) (lk O) o.op with
    | some _ => false
    | none => match evalEff te (hide h.1 (lk T)) (hide h.2 (lk O)) k o.op with
      | some _ => true
      | none => match evalEff te (lk T) (lk O) k o.op with
        | some _ => false
        | none => match evalX te (hide h.1 (lk T)) (hide h.2 (lk O)) k o.dst o.op with
         | some _ => true
         | none => match evalX te (lk T) (lk O) k o.dst o.op with
          | some _ => false
          | none => match o.op with
          | .call { callee := .value fo, args, argTypes := _ } => match evO (hide h.1 (lk T)) fo with
            | some (.func _ cap) => match evL (hide h.1 (lk T)) args.toList with
              | some as => (closeR te O 64 (refsL (as ++ cap)) []).all fun x => !(hasN h.2 x)
              | none => false
            | _ => false
          | _ => false

def looksOK (G : Env) (opl : List Oper) (h : List Nat × List Nat) (k : Nat) (r : DRow) : Bool :=
  (match r.o.guard with
    | none => r.p.want
    | some _ => match gslot opl r.o with
      | some (d, _) => !(hasN h.1 d)
      | none => false) &&
  (match r.p.want with
    | false => true
    | true => looks2 G.te h k r.o r.T r.O)

def looksAll (G : Env) (opl : List Oper) (plan : List PEnt) (anc : List (List Nat)) : Nat → Nat → List DRow → Bool
  | _, _, [] => true
  | i, k, r :: l => looksOK G opl (hidAt opl plan anc i) k r && looksAll G opl plan anc (i + 1) (k + 16) l

/-- One operation of a region that draws. -/
def wpD1 (G : Env) (o : Oper) (T : List (Nat × AV)) (O : List (Nat × AObj)) (k : Nat) (K : AV → List (Nat × AObj) → Prop) : Prop :=
  match dstOK G.N o.dst with
  | true => match evalPure G.te (lk T) (lk O) o.op with
    | some (u, v) => vcP (trivOp (lk T) o.op) v (K u [])
    | none => match evalEff G.te (lk T) (lk O) k o.op with
      | some (u, l, v) => vcP (trivEff G.te (lk T) o.op) v (K u l)
      | none => match evalX G.te (lk T) (lk O) k o.dst o.op with
       | some (b, x1, x2) => condP b (x1.2.2 ∧ K x1.1 x1.2.1) (x2.2.2 ∧ K x2.1 x2.2.1)
       | none => match o.op with
        | .call { callee := .value fo, args, argTypes := _ } => match evO (lk T) fo with
          | some (.func f cap) => match evL (lk T) args.toList with
            | some as => match lk G.calls f with
              | some (.det S) => match closeR G.te O 64 (refsL (as ++ cap)) [] with
                | pass => match ndB pass with
                  | true => match objsOf (idxN pass) (lk O) pass with
                    | some cobjs => match S (AV.rnL (idxN pass) (as ++ cap)) cobjs with
                      | some (U, Os, vc) => match ndB (Os.map Prod.fst), backQ pass k Os with
                        | true, some O2 => rowVCo cobjs (vc ∧ rowVC Os (K (U.rn (sig pass k)) (O2 ++ deads pass)))
                        | _, _ => False
                      | none => False
                    | none => False
                  | false => False
              | _ => False
            | none => False
          | _ => False
        | _ => False
  | false => False

def drawnOK (G : Env) (opl : List Oper) (nx0 : Nat) (rows : List DRow) : Bool := match rows.map DRow.p, ancAll opl [] with
  | plan, anc => chkA opl anc opl.length && chkB opl plan anc ((List.range opl.length).map (hidAt opl plan anc)) opl.length && chkC plan anc nx0 opl.length && looksAll G opl plan anc 0 nx0 rows

def wpD (G : Env) (opl : List Oper) (T0 : List (Nat × AV)) (O0 : List (Nat × AObj)) (nx0 : Nat) (K : St → Prop) : List Oper → List DRow → KT
  | [], rows, T, O, nx => match drawnOK G opl nx0 rows with
    | true => K ⟨T, O, nx, []⟩
    | false => False
  | o :: rest, rows, T, O, nx =>
    match o.guard with
    | none => wpD1 G o T O nx fun u l => wpD G opl T0 O0 nx0 K rest (rows ++ [⟨o, T, O, ⟨true, u, l⟩⟩]) (putT o.dst u T) (l ++ O) (nx + 16)
    | some _ => match gslot opl o with
      | some (d, want) => match lk T d with
        | some (.bool b) => match dstOK G.N o.dst with
          | true => condP b
            (match want, (d, AV.bool true) :: rm d T with
              | true, T => wpD1 G o T O nx fun u l => wpD G opl T0 O0 nx0 K rest (rows ++ [⟨o, T, O, ⟨true, u, l⟩⟩]) (putT o.dst u T) (l ++ O) (nx + 16)
              | false, T => wpD G opl T0 O0 nx0 K rest (rows ++ [⟨o, T, O, ⟨false, .tuple [], []⟩⟩]) (putT o.dst (.tuple []) T) O (nx + 16))
            (match want, (d, AV.bool false) :: rm d T with
              | false, T => wpD1 G o T O nx fun u l => wpD G opl T0 O0 nx0 K rest (rows ++ [⟨o, T, O, ⟨true, u, l⟩⟩]) (putT o.dst u T) (l ++ O) (nx + 16)
              | true, T => wpD G opl T0 O0 nx0 K rest (rows ++ [⟨o, T, O, ⟨false, .tuple [], []⟩⟩]) (putT o.dst (.tuple []) T) O (nx + 16))
          | false => False
        | some (.tuple []) => match dstOK G.N o.dst with
          | true => wpD G opl T0 O0 nx0 K rest (rows ++ [⟨o, T, O, ⟨false, .tuple [], []⟩⟩]) (putT o.dst (.tuple []) T) O (nx + 16)
          | false => False
        | _ => False
      | none => False

/-- A name for a loop: its first region's. -/
def firstR : Code → Nat
  | .region id _ _ => id
  | .seq a _ => firstR a
  | .block _ a => firstR a
  | .loop a => firstR a
  | .cond _ a _ => firstR a
  | .scope a => firstR a
  | _ => 0

def iterP (B : (Exit → St → Prop) → St → Prop) : Nat → (Exit → St → Prop) → St → Prop
  | 0, _, _ => False
  | n + 1, Q, s => B (thenA (iterP B n Q) Q) s

/-- No jump leaves. -/
def noGotoA (Q : Exit → St → Prop) : Exit → St → Prop
  | .goto _, _ => False
  | e, s => Q e s

def wpC (G : Env) : Code → (Exit → St → Prop) → St → Prop
  | .skip, Q, s => Q .normal s
  | .label _, Q, s => Q .normal s
  | .exit id, Q, s => Q (.exit id) s
  | .ret, Q, s => Q .ret s
  | .seq x y, Q, s => wpC G x (thenA (wpC G y Q) Q) s
  | .block id x, Q, s => wpC G x (blockA id Q) s
  | .cond c x y, Q, s => match evO (lk s.T) c with
    | some (.bool b) => condP b (wpC G x Q s) (wpC G y Q s)
    | _ => False
  | .region id ops draw, Q, s => match lk G.loops (id + 1000) with
    | some L => L s Q
    | none => match draw with
      | false => wpOps G ops.toList (Q .normal) ops.toList s.T s.O s.nx
      | true => wpD G ops.toList s.T s.O s.nx (Q .normal) ops.toList [] s.T s.O s.nx
  | .loop x, Q, s => match lk G.loops (firstR x) with
    | some L => L s Q
    | none => iterP (wpC G x) G.fuel Q s
  | .scope x, Q, s => wpC G x (noGotoA Q) s
  | .goto l, Q, s => Q (.goto l) s
  | _, _, _ => False

def numR (m : Nat) : List Nat → Nat → List (Nat × Nat)
  | [], _ => []
  | r :: l, k => match Nat.blt r m with
    | true => numR m l k
    | false => (r, k) :: numR m l (k + 1)

def canO (m : Nat) (ρ : List (Nat × Nat)) (O : List (Nat × AObj)) : List (Nat × Nat) → Option (List (Nat × AObj))
  | [] => some []
  | (r, k) :: l => match canO m ρ O l with
    | some O' => match lk O r with
      | some o => match o.mut with
        | true => match rnO? (ren m ρ) o with
          | some o' => some ((k, o') :: O')
          | none => none
        | false => some O'
      | none => some O'
    | none => none

def canT (ρ : Nat → Option Nat) (T : List (Nat × AV)) : List Nat → Option (List (Nat × AV))
  | [] => some []
  | d :: l => match lk T d, canT ρ T l with
    | some u, some T' => some ((d, u.rn ρ) :: T')
    | _, _ => none

def refsT (T : List (Nat × AV)) : List Nat → List Nat
  | [] => []
  | d :: l => match lk T d with
    | some u => refsA u ++ refsT T l
    | none => refsT T l

/-- The state told anew: some slots, the objects that they reach and those handed over; the others' names in order. -/
def canon (te : TE) (m : Nat) (F : List Nat) (s : St) : Option St :=
  match numR m (closeR te s.O 64 (List.range m ++ refsT s.T F) []) m with
  | ρ => match renOK m (m + ρ.length) ρ with
    | true => match canT (ren m ρ) s.T F, canO m ρ s.O (((List.range m).map fun r => (r, r)) ++ ρ) with
      | some T', some O' => some ⟨T', O', m + ρ.length, []⟩
      | _, _ => none
    | false => none

def TEq (T T' : List (Nat × AV)) : Prop := T = T'

/-- The state told anew is s (rows may be told by other functions). -/
def canonIs (te : TE) (m : Nat) (F : List Nat) (s1 s : St) : Prop := match canon te m F s1 with
  | some s2 => match hasRow s2.O with
    | true => match Nat.beq s2.nx s.nx with
      | true => TEq s2.T s.T ∧ RowsEq s2.O s.O
      | false => False
    | false => some s2 = some s
  | none => False

def tmpsR : List ResultVar → Bool
  | [] => true
  | .tmp _ :: l => tmpsR l
  | _ => false

/-- The end of a body. -/
def finP (te : TE) (rs : List ResultVar) (m : Nat) (R : AV → List (Nat × AObj) → Prop) (s : St) : Prop :=
  match resA te (lk s.T) (lk s.O) rs with
  | some (us, vc) => match numR m (closeR te s.O 64 (List.range m ++ refsL us) []) m with
    | ρ => match renOK m (m + ρ.length) ρ && Nat.ble ρ.length 16 with
      | true => match canO m ρ s.O (((List.range m).map fun r => (r, r)) ++ ρ) with
        | some O' => vcP (tmpsR rs) vc (rowVC O' (rowR O' (R ((one us).rn (ren m ρ)))))
        | none => False
      | false => False
  | none => False

def endP (te : TE) (rs : List ResultVar) (m : Nat) (R : AV → List (Nat × AObj) → Prop) : Exit → St → Prop
  | .normal, s => finP te rs m R s
  | .ret, s => finP te rs m R s
  | _, _ => False

def bodyC (fn : Func) : Code := match fn.body with
  | some c => c
  | none => .skip

/-- A whole function. -/
def wpFn (te : TE) (calls : List (Nat × CSpec)) (loops : List (Nat × LSpec)) (fuel : Nat) (fn : Func) (args : List AV) (objs : List AObj) (R : AV → List (Nat × AObj) → Prop) : Prop :=
  wpC ⟨te, calls, loops, objs.length, fn.ntmps, fuel⟩ (bodyC fn) (endP te fn.results.toList objs.length R) ⟨enum 0 args, enum 0 objs, objs.length, []⟩

/-- The loops and regions of a code that have a promise (a loop under its first region's number, a region under its number and 1000). -/
def loopsOf (L : List (Nat × LSpec)) : Code → List (Code × LSpec)
  | .seq x y => loopsOf L x ++ loopsOf L y
  | .block _ x => loopsOf L x
  | .scope x => loopsOf L x
  | .cond _ x y => loopsOf L x ++ loopsOf L y
  | .loop x => match lk L (firstR x) with
    | some l => [(.loop x, l)]
    | none => loopsOf L x
  | .region id ops d => match lk L (id + 1000) with
    | some l => [(.region id ops d, l)]
    | none => []
  | _ => []

/-- The body of the loop with a name. -/
def loopAt (i : Nat) : Code → Option Code
  | .seq x y => match loopAt i x with
    | some c => some c
    | none => loopAt i y
  | .block _ x => loopAt i x
  | .scope x => loopAt i x
  | .cond _ x y => match loopAt i x with
    | some c => some c
    | none => loopAt i y
  | .loop x => match Nat.beq (firstR x) i with
    | true => some x
    | false => loopAt i x
  | _ => none

def regAt (i : Nat) : Code → Option Code
  | .seq x y => match regAt i x with
    | some c => some c
    | none => regAt i y
  | .block _ x => regAt i x
  | .scope x => regAt i x
  | .cond _ x y => match regAt i x with
    | some c => some c
    | none => regAt i y
  | .loop x => regAt i x
  | .region id ops d => match Nat.beq id i with
    | true => some (.region id ops d)
    | false => none
  | _ => none

def loopB (fn : Func) (i : Nat) : Code := match loopAt i (bodyC fn) with
  | some c => c
  | none => .skip
def loopC (fn : Func) (i : Nat) : Code := .loop (loopB fn i)
def regC (fn : Func) (i : Nat) : Code := match regAt i (bodyC fn) with
  | some c => c
  | none => .skip

end Go.Eng
/- The weakest precondition as a function: operations and calls: it serves. -/
namespace Go.Eng

/-- What is promised of a function's calls. -/
def SpecOK (C : Ctx) (f : FuncId) (S : Spec) : Prop := ∀ args objs U Os vc, S args objs = some (U, Os, vc) → vc → ADet C f args objs U Os

def RSpecOK (C : Ctx) (f : FuncId) (S : RSpec) : Prop := ∀ args objs R, S args objs R → ACalls C f args objs R
def CSpecOK (C : Ctx) (f : FuncId) : CSpec → Prop
  | .det S => SpecOK C f S
  | .rel S => RSpecOK C f S

structure EnvOK (C : Ctx) (G : Env) : Prop where
  te : TE.ok C.P G.te
  one : ∀ t ti, lk G.te t = some ti → isAggD ti.desc = false → ti.sz = 1
  calls : ∀ f S, lk G.calls f = some S → CSpecOK C f S

theorem rowVC1_elim {o : AObj} {P : Prop} (h : rowVC1 o P) : rowVC1 o True ∧ P := by
  cases o <;> first | exact ⟨⟨h.1, trivial⟩, h.2⟩ | exact ⟨trivial, h⟩
theorem rowVC_elim : ∀ {l : List (Nat × AObj)} {P : Prop}, rowVC l P → (∀ p ∈ l, rowVC1 p.2 True) ∧ P
  | [], _, h => ⟨fun p hp => by simp at hp, h⟩
  | o :: l, P, h => by
    obtain ⟨h1, h2⟩ := rowVC1_elim h
    obtain ⟨h3, h4⟩ := rowVC_elim h2
    refine ⟨fun p hp => ?_, h4⟩
    rcases List.mem_cons.1 hp with rfl | hp
    · exact h1
    · exact h3 p hp
theorem rowVCo_elim : ∀ {l : List AObj} {P : Prop}, rowVCo l P → (∀ o ∈ l, rowVC1 o True) ∧ P
  | [], _, h => ⟨fun p hp => by simp at hp, h⟩
  | o :: l, P, h => by
    obtain ⟨h1, h2⟩ := rowVC1_elim h
    obtain ⟨h3, h4⟩ := rowVCo_elim h2
    refine ⟨fun p hp => ?_, h4⟩
    rcases List.mem_cons.1 hp with rfl | hp
    · exact h1
    · exact h3 p hp

theorem rnO?_le {σ : Nat → Option Nat} {o o' : AObj} (h : rnO? σ o = some o') (hv : rowVC1 o' True) : OLe σ o o' := by
  cases o with
  | miter m n l =>
    simp only [rnO?] at h
    split at h
    · rename_i m' hm
      simp only [Option.some.injEq] at h
      subst h
      exact ⟨hm, rfl, rfl⟩
    · cases h
  | row t sz n f fr =>
    simp only [rnO?, Option.some.injEq] at h
    subst h
    exact ⟨rfl, rfl, rfl, rfl, fun i hi => rnL_nref σ _ (hv.1 i hi)⟩
  | _ =>
    simp only [rnO?, Option.some.injEq] at h
    subst h
    simp [OLe]

theorem rnO?_row {σ : Nat → Option Nat} {o o' : AObj} (h : rnO? σ o = some o') (hv : rowVC1 o True) : rowVC1 o' True := by
  cases o with
  | miter m n l =>
    simp only [rnO?] at h
    split at h
    · simp only [Option.some.injEq] at h
      subst h
      trivial
    · cases h
  | row t sz n f fr =>
    simp only [rnO?, Option.some.injEq] at h
    subst h
    exact hv
  | _ =>
    simp only [rnO?, Option.some.injEq] at h
    subst h
    trivial

theorem objsOf_ok {ρ : Nat → Option Nat} {O : Nat → Option AObj} : ∀ {l : List Nat} {l' : List AObj}, objsOf ρ O l = some l' → (∀ o ∈ l', rowVC1 o True) → OPassF ρ O l l'
  | [], l', h, _ => by simp only [objsOf, Option.some.injEq] at h; subst h; trivial
  | r :: l, l', h, hv => by
    simp only [objsOf] at h
    split at h
    · rename_i o ho
      split at h
      · rename_i hm
        split at h
        · rename_i o' ho'
          split at h
          · rename_i l2 hl
            simp only [Option.some.injEq] at h
            subst h
            exact ⟨⟨o, ho, hm, rnO?_le ho' (hv o' (by simp))⟩, objsOf_ok hl fun o ho => hv o (List.mem_cons_of_mem _ ho)⟩
          · cases h
        · cases h
      · cases h
    · cases h

theorem backQ_ok {pass : List Nat} {k : Nat} : ∀ {Os O2 Oall : List (Nat × AObj)}, backQ pass k Os = some O2 → (∀ p ∈ Os, rowVC1 p.2 True) → (∀ p ∈ Os, lk Oall p.1 = some p.2) → OBack (sig pass k) Oall O2
  | [], O2, Oall, h, _, _ => by simp only [backQ, Option.some.injEq] at h; subst h; trivial
  | p :: l, O2, Oall, h, hv, hl => by
    simp only [backQ] at h
    split at h
    · rename_i o l' ho hl'
      simp only [Option.some.injEq] at h
      subst h
      exact ⟨⟨p.1, p.2, sig_eq _ _ _, hl p (by simp), rnO?_le ho (rnO?_row ho (hv p (by simp)))⟩, backQ_ok hl' (fun q hq => hv q (List.mem_cons_of_mem _ hq)) fun q hq => hl q (List.mem_cons_of_mem _ hq)⟩
    · cases h

theorem lk_all {l : List (Nat × AObj)} (h : ndB (l.map Prod.fst) = true) : ∀ p ∈ l, lk l p.1 = some p.2 := fun _ hp => lk_of_mem (ndB_nodup h) hp

theorem vcP_elim {b : Bool} {v P : Prop} (hb : b = true → v) (h : vcP b v P) : v ∧ P := by
  cases b with
  | true => exact ⟨hb rfl, h⟩
  | false => exact h

theorem namesOK_all : ∀ {l : List (Nat × AObj)} {nx : Nat}, namesOK l nx = true → ∀ p ∈ l, p.1 ≤ nx
  | [], _, _, p, hp => by simp at hp
  | x :: l, nx, h, p, hp => by
    simp only [namesOK, Bool.and_eq_true] at h
    rcases List.mem_cons.1 hp with rfl | hp
    · exact Nat.le_of_ble_eq_true h.1
    · exact namesOK_all h.2 p hp

theorem binA_triv {d : TypeDesc} {op : BinOp} {a b u : AV} {v : Prop} (h : binA d op a b = some (u, v)) (ho : op = .eql ∨ op = .neq ∨ op = .lss ∨ op = .leq ∨ op = .gtr ∨ op = .geq) : v := by
  unfold binA at h
  rcases ho with rfl | rfl | rfl | rfl | rfl | rfl <;> (repeat' (split at h)) <;> simp_all

theorem opA_triv {te : TE} {op : BinOp} {t : TypeId} {y : Operand} {a b u : AV} {v : Prop} (h : opA te op t y a b = some (u, v)) (ho : op = .eql ∨ op = .neq ∨ op = .lss ∨ op = .leq ∨ op = .gtr ∨ op = .geq) : v := by
  unfold opA at h
  split at h
  · split at h
    · split at h
      · split at h <;> simp_all
      · cases h
    · split at h
      · exact binA_triv h ho
      · cases h
  · cases h

theorem arithA_triv {k : IntKind} {n m : Int} {u : AV} {v : Prop} (h : arithA k m = some (u, v)) (hu : unsA (some (.int k n)) = true) : v := by
  cases k <;> simp_all [unsA, arithA]

theorem binA_arith {d : TypeDesc} {op : BinOp} {k : IntKind} {n : Int} {b u : AV} {v : Prop} (h : binA d op (.int k n) b = some (u, v)) (ho : op = .add ∨ op = .sub ∨ op = .mul) (hu : unsA (some (.int k n)) = true) : v := by
  cases b with
  | int k' m =>
    rcases ho with rfl | rfl | rfl <;> simp only [binA] at h <;> split at h <;> first | exact arithA_triv h hu | cases h
  | _ => rcases ho with rfl | rfl | rfl <;> simp [binA] at h

theorem arith_triv {te : TE} {op : BinOp} {t : TypeId} {y : Operand} {a b u : AV} {v : Prop} (h : opA te op t y a b = some (u, v)) (ho : op = .add ∨ op = .sub ∨ op = .mul) (hu : unsA (some a) = true) : v := by
  cases a with
  | int k n =>
    unfold opA at h
    split at h
    · split at h
      · rename_i h1 h2; cases h2
      · split at h
        · exact binA_arith h ho hu
        · cases h
    · cases h
  | _ => cases hu

theorem trivOp_ok {te : TE} {T : Nat → Option AV} {O : Nat → Option AObj} {op : Op} {u : AV} {v : Prop} (h : evalPure te T O op = some (u, v)) (ht : trivOp T op = true) : v := by
  unfold trivOp at ht
  split at ht
  all_goals (try (cases ht; done))
  all_goals (try (simp only [evalPure] at h; (repeat' (split at h)) <;> simp_all; done))
  · -- load
    rename_i t x
    simp only [evalPure] at h
    split at h
    · rename_i w hw
      unfold loadA at h
      rw [hw] at ht
      split at h
      · split at h
        · rename_i g vc hg
          have : vc := by
            unfold ptrCells at hg
            split at hg
            · split at hg <;> simp_all
            · simp at ht
            · simp_all
            · cases hg
          repeat' (split at h)
          all_goals (first | (cases h; done) | (simp only [Option.some.injEq, Prod.mk.injEq] at h; obtain ⟨_, rfl⟩ := h; exact this))
        · cases h
      · cases h
    · cases h
  · rename_i op t x y tt
    simp only [evalPure] at h
    split at h
    · rename_i a b ha hb
      rw [ha] at ht
      cases op
      case add | sub | mul => exact arith_triv h (by simp) ht
      case eql | neq | lss | leq | gtr | geq => exact opA_triv h (by simp)
      all_goals (cases ht)
    · cases h

theorem trivEff_ok {te : TE} {T : Nat → Option AV} {O : Nat → Option AObj} {fresh : Nat} {op : Op} {u : AV} {l : List (Nat × AObj)} {v : Prop} (h : evalEff te T O fresh op = some (u, l, v)) (ht : trivEff te T op = true) : v := by
  unfold trivEff at ht
  split at ht
  all_goals (try (cases ht; done))
  all_goals (try (simp only [evalEff] at h; (repeat' (split at h)) <;> simp_all; done))

section
variable {C : Ctx} {G : Env} (hG : EnvOK C G) {m : Nat} {ops : Array Oper} {rest : List Oper} {Q : Exit → St → Prop} {o : Oper} {T : List (Nat × AV)} {O : List (Nat × AObj)} {nx : Nat} {dec : List Nat}
include hG

theorem wpCall_ok {K : KT} (hg : o.guard = none) (hd : dstOK G.N o.dst = true) (h : wpCall G o T O nx K) (hK : ∀ T O nx, K T O nx → AOps C m G.N ops rest Q ⟨T, O, nx, []⟩) : AOps C m G.N ops (o :: rest) Q ⟨T, O, nx, []⟩ := by
  unfold wpCall at h
  split at h
  · rename_i fo args at_ hop
    split at h
    · rename_i f cap hf
      split at h
      · rename_i as ha
        have hpass : ∀ {l : List Nat} {l' : List AObj}, OPassF (idxN (closeR G.te O 64 (refsL (as ++ cap)) [])) (lk O) l l' → OPass (idxN (closeR G.te O 64 (refsL (as ++ cap)) [])) O l l' := by
          intro l
          induction l with
          | nil => intro l' h; cases l' with
            | nil => trivial
            | cons _ _ => exact h.elim
          | cons x l ih => intro l' h; cases l' with
            | nil => exact h.elim
            | cons y l' => exact ⟨h.1, ih h.2⟩
        have fin : ∀ (O' O2 : List (Nat × AObj)) (U : AV), ndB (O'.map Prod.fst) = true → backQ (closeR G.te O 64 (refsL (as ++ cap)) []) nx O' = some O2 → (∀ p ∈ O', rowVC1 p.2 True) →
            K (putT o.dst (U.rn (sig (closeR G.te O 64 (refsL (as ++ cap)) []) nx)) T) (ov O2 (ov (deads (closeR G.te O 64 (refsL (as ++ cap)) [])) O)) (nx + 16) →
            ∃ u2 O2, U.rn (sig (closeR G.te O 64 (refsL (as ++ cap)) []) nx) = u2 ∧ OBack (sig (closeR G.te O 64 (refsL (as ++ cap)) []) nx) O' O2 ∧ AOps C m G.N ops rest Q ⟨putT o.dst u2 T, O2 ++ (deads (closeR G.te O 64 (refsL (as ++ cap)) []) ++ O), nx + 16, []⟩ := by
          intro O' O2 U hnk hb hv hk
          refine ⟨_, O2, rfl, backQ_ok hb hv (lk_all hnk), ?_⟩
          refine AOps.congrO (O' := ov O2 (ov (deads (closeR G.te O 64 (refsL (as ++ cap)) [])) O)) ?_ (hK _ _ _ hk)
          rw [lk_ov]
          funext r
          rw [lk_append, lk_append, lk_ov]
        split at h
        · rename_i S hS
          dsimp only at h
          split at h
          · rename_i hnd
            split at h
            · rename_i cobjs hobj
              obtain ⟨hv, h⟩ := rowVCo_elim h
              have hc := (hG.calls f _ hS : RSpecOK C f S) _ _ _ h
              refine AOps.call (s := ⟨T, O, nx, []⟩) _ hop hg hd hf ha (ndB_nodup hnd) (hpass (objsOf_ok hobj hv)) hc ?_
              intro u O' hR
              split at hR
              · rename_i O2 hnk hb
                obtain ⟨hv', hk⟩ := rowVC_elim hR
                exact fin O' O2 u hnk hb hv' hk
              · exact hR.elim
            · exact h.elim
          · exact h.elim
        · rename_i S hS
          dsimp only at h
          split at h
          · rename_i hnd
            split at h
            · rename_i cobjs hobj
              split at h
              · rename_i U Os vc hUS
                split at h
                · rename_i O2 hnk hb
                  obtain ⟨hv, hvc, h⟩ := rowVCo_elim h
                  obtain ⟨hv', hk⟩ := rowVC_elim h
                  refine AOps.call (s := ⟨T, O, nx, []⟩) _ hop hg hd hf ha (ndB_nodup hnd) (hpass (objsOf_ok hobj hv)) ((hG.calls f _ hS : SpecOK C f S) _ _ _ _ _ hUS hvc) ?_
                  rintro u O' ⟨rfl, rfl⟩
                  exact fin O' O2 u hnk hb hv' hk
                · exact h.elim
              · exact h.elim
            · exact h.elim
          · exact h.elim
        · exact h.elim
      · exact h.elim
    · exact h.elim
  · exact h.elim

theorem wpNext_ok {K : KT} {x : Operand} (hg : o.guard = none) (hd : dstOK G.N o.dst = true) (hop : o.op = .next x false) (h : wpNext o x T O nx K) (hK : ∀ T O nx, K T O nx → AOps C m G.N ops rest Q ⟨T, O, nx, []⟩) : AOps C m G.N ops (o :: rest) Q ⟨T, O, nx, []⟩ := by
  have _ := hG
  unfold wpNext at h
  split at h
  · rename_i r hx
    split at h
    · rename_i mm n0 ty c0 left hO
      split at h
      · rename_i es hM
        obtain ⟨hn, h0, h1⟩ := h
        refine AOps.nextMap hg hop hd hx hO hM hn (fun hl => hK _ _ _ (h0 hl)) (fun i hi => ?_)
        refine AOps.congrO (O' := ov [(r, .miter mm n0 (ty :: i :: left.erase i))] O) ?_ (hK _ _ _ (h1 i hi))
        rw [lk_ov]; rfl
      · exact h.elim
    · exact h.elim
  · exact h.elim

theorem wpEntry_ok {K : KT} {x : Operand} (hg : o.guard = none) (hd : dstOK G.N o.dst = true) (hop : o.op = .entry x) (h : wpEntry G o x T O nx K) (hK : ∀ T O nx, K T O nx → AOps C m G.N ops rest Q ⟨T, O, nx, []⟩) : AOps C m G.N ops (o :: rest) Q ⟨T, O, nx, []⟩ := by
  have _ := hG
  unfold wpEntry at h
  split at h
  · rename_i r hx
    split at h
    · rename_i mm n0 ty c0 left hO
      split at h
      · rename_i es zk zv hM _
        obtain ⟨⟨hn, hc, e1, e2⟩, hk⟩ := h
        rw [e1, e2] at hk
        have hg2 : es[c0]? = some ((es.getD c0 (.any, .any)).1, (es.getD c0 (.any, .any)).2) := by
          have : c0 < es.length := by omega
          simp [List.getD, this]
        exact AOps.step hg (OpStep.entry hop hd hx hO hM hn hg2) rfl rfl rfl rfl (hK _ _ _ hk)
      · exact h.elim
    · exact h.elim
  · exact h.elim

theorem wp1_ok {K : KT} (hg : o.guard = none) (h : wp1 G o T O nx K) (hK : ∀ T O nx, K T O nx → AOps C m G.N ops rest Q ⟨T, O, nx, []⟩) : AOps C m G.N ops (o :: rest) Q ⟨T, O, nx, []⟩ := by
  unfold wp1 at h
  split at h
  · rename_i hd
    split at h
    · rename_i u v hu
      obtain ⟨h1, h2⟩ := vcP_elim (trivOp_ok hu) h
      exact AOps.pure (s := ⟨T, O, nx, []⟩) hG.te hG.one hg hu hd h1 (hK _ _ _ h2)
    · split at h
      · rename_i u l v hu
        split at h
        · rename_i hn
          obtain ⟨h1, h2⟩ := vcP_elim (trivEff_ok hu) h
          refine AOps.eff (s := ⟨T, O, nx, []⟩) hG.te hg hu hd (namesOK_all hn) h1 ?_
          refine AOps.congrO (O' := ov l O) ?_ (hK _ _ _ h2)
          rw [lk_ov]
        · exact h.elim
      · split at h
        · rename_i b x1 x2 hx
          split at h
          · rename_i hn
            simp only [Bool.and_eq_true] at hn
            obtain ⟨k1, k2⟩ := evalX_ok hG.te hG.one (N := G.N) hx hd
            have fin : ∀ x : XOut, namesX x.2.1 nx = true → OpStep C G.N o (lk T) (lk O) nx x.1 x.2.1 → K (putT o.dst x.1 T) (ov x.2.1 O) (nx + 16) → AOps C m G.N ops (o :: rest) Q ⟨T, O, nx, []⟩ := by
              intro x hnx hs hk
              refine AOps.step hg hs hnx rfl rfl rfl ?_
              refine AOps.congrO (O' := ov x.2.1 O) ?_ (hK _ _ _ hk)
              rw [lk_ov]
            obtain ⟨h1, h2⟩ := condP_elim h
            cases hb : b with
            | true => exact fin x1 hn.1 (k1 hb (h1 hb).1) (h1 hb).2
            | false => exact fin x2 hn.2 (k2 hb (h2 hb).1) (h2 hb).2
          · exact h.elim
        · split at h
          · rename_i x hop
            exact wpNext_ok hG hg hd hop h hK
          · rename_i x hop
            exact wpEntry_ok hG hg hd hop h hK
          · exact wpCall_ok hG hg hd h hK
  · exact h.elim

theorem wp1_guard {opl : List Oper} {K : KT} (h : wp1 G o T O nx K) {d : Nat} {want : Bool} (hgs : gslot opl o = some (d, want)) (hT : lk T d = some (.bool want)) (hK : ∀ T O nx, K T O nx → AOps C m G.N opl.toArray rest Q ⟨T, O, nx, []⟩) :
    AOps C m G.N opl.toArray (o :: rest) Q ⟨T, O, nx, []⟩ :=
  AOps.yes (s := ⟨T, O, nx, []⟩) hgs hT (wp1_ok hG (o := unguard o) rfl h hK)

omit hG in
theorem AOps.noU {opl : List Oper} {d : Nat} {want : Bool} (hg : gslot opl o = some (d, want)) (hT : (∃ b, lk T d = some (.bool b) ∧ (b == want) = false) ∨ lk T d = some (.tuple [])) (hd : dstOK G.N o.dst = true)
    (k : AOps C m G.N opl.toArray rest Q ⟨putT o.dst (.tuple []) T, O, nx, []⟩) : AOps C m G.N opl.toArray (o :: rest) Q ⟨T, O, nx, []⟩ := by
  intro E hE bs a w hr
  have hw : Region.wanted o (yielded opl.toArray a.tmps) = false := by
    rcases hT with ⟨b, hT, hb⟩ | hT
    · rw [wanted_of hr.1.1 hg hT, hb]
    · exact wanted_undef hr.1.1 hg hT
  unfold wpList
  rw [hw]
  exact k E hE bs _ _ ⟨⟨hr.1.1.putT hd V_undef, hr.1.2⟩, hr.2⟩

theorem wpOps_ok {opl : List Oper} {K : St → Prop} (hK : ∀ s, K s → Q .normal s) : ∀ (l : List Oper) (T : List (Nat × AV)) (O : List (Nat × AObj)) (nx : Nat), wpOps G opl K l T O nx → AOps C m G.N opl.toArray l Q ⟨T, O, nx, []⟩
  | [], T, O, nx, h => AOps.nil (hK _ h)
  | o :: rest, T, O, nx, h => by
    have ih := wpOps_ok (opl := opl) hK rest
    simp only [wpOps] at h
    split at h
    · rename_i hg
      exact wp1_ok hG hg h ih
    · split at h
      · rename_i d want hgs
        split at h
        · rename_i b hT
          split at h
          · rename_i hb
            simp only [Bool.and_eq_true] at hb
            have e : ∀ b', AOps C m G.N opl.toArray (o :: rest) Q ⟨(d, .bool b') :: rm d T, O, nx, []⟩ → AOps C m G.N opl.toArray (o :: rest) Q ⟨(d, .bool b') :: rm d T, O, nx, [d]⟩ := fun _ h => h
            have hl : ∀ b', lk ((d, AV.bool b') :: rm d T) d = some (.bool b') := fun b' => by rw [lk_cons]; simp
            refine AOps.split (s := ⟨T, O, nx, []⟩) d hb.1 hT (fun hh => e _ ?_) (fun hh => e _ ?_)
            · have h := (condP_elim h).1 hh
              split at h
              · exact wp1_guard hG h hgs (hl _) ih
              · exact AOps.noU hgs (.inl ⟨_, hl _, rfl⟩) hb.2 (ih _ _ _ h)
            · have h := (condP_elim h).2 hh
              split at h
              · exact wp1_guard hG h hgs (hl _) ih
              · exact AOps.noU hgs (.inl ⟨_, hl _, rfl⟩) hb.2 (ih _ _ _ h)
          · exact h.elim
        · rename_i hT
          split at h
          · rename_i hd
            exact AOps.noU hgs (.inr hT) hd (ih _ _ _ h)
          · exact h.elim
        · exact h.elim
      · exact h.elim
end

end Go.Eng
