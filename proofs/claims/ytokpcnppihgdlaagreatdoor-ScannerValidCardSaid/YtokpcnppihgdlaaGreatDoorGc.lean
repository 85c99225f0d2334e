/- Lemmas that the tied card of ScannerValid is proved by. -/
import Derived.Test.YtokpcnppihgdlaaGreatDoorGb
/- The engine, part 8: the one function for all operations that write nothing, and that it is right. -/
namespace Go.Eng

def partA (te : TE) (t : TypeId) (k : Nat) : AV → Option AV
  | .agg cs => match fieldOf te t k with
    | some f => match lk te f.type with
      | some ti => match takeN ti.sz (dropL f.offset cs) with
        | some a => match isAggD ti.desc with
          | true => some (.agg a)
          | false => match a with
            | [u] => some u
            | _ => none
        | none => none
      | none => none
    | none => none
  | _ => none

theorem partA_sound {P : Program} {te : TE} (hte : TE.ok P te) (hn : ∀ t ti, lk te t = some ti → isAggD ti.desc = false → ti.sz = 1) {w : World} {M : Nat → Prop} {bs : Nat → Option Hd} {t : TypeId} {k : Nat} {x : Value} {a u : AV}
    (hx : V w M bs x a) (h : partA te t k a = some u) : ∃ v, (Instr.field t x k).run P w = .ok v w ∧ V w M bs v u := by
  unfold partA at h
  split at h
  · rename_i cs
    cases hx with
    | agg l1 o1 V1 =>
      rename_i vs
      split at h
      · rename_i f hf
        unfold fieldOf at hf
        split at hf
        · rename_i ts hts
          have hu := run_und hte (w := w) hts
          split at hf
          · rename_i fs hd
            rw [hd] at hu
            have hf' : fs[k]? = some f := by rw [← hf]; simp
            split at h
            · rename_i ti hti
              split at h
              · rename_i b hb
                obtain ⟨v, hv, hcv⟩ := run_part hte hti (hn _ _ hti) l1 o1 V1 hb
                have key : (Instr.field t (.agg vs) k).run P w = .ok v w := by simp [Instr.field, hu, hf', asAgg, hv]
                refine ⟨v, key, ?_⟩
                split at h
                · rename_i hag
                  simp only [Option.some.injEq] at h
                  subst h
                  rw [hag] at hcv
                  obtain ⟨vs', rfl, a1, a2, a3⟩ := hcv
                  exact .agg a1 a2 a3
                · rename_i hag
                  rw [hag] at hcv
                  obtain ⟨u', rfl, hV⟩ := hcv
                  simp only [Option.some.injEq] at h
                  subst h
                  exact hV
              · cases h
            · cases h
          · cases hf
        · cases hf
      · cases h
  · cases h

def indexStrA (te : TE) (t : TypeId) (u : AV) (i : AV) : Option (AV × Prop) :=
  match lk te t with
  | some ti => match ti.desc, u, i with
    | .string, .str s, .int _ k => some (.int .u8 (s.getD k.toNat 0).toNat, 0 ≤ k ∧ k < s.length)
    | _, _, _ => none
  | none => none

theorem indexStrA_sound {P : Program} {te : TE} (hte : TE.ok P te) {w : World} {M : Nat → Prop} {bs : Nat → Option Hd} {t : TypeId} {x y : Value} {a b u : AV} {vc : Prop} (hx : V w M bs x a) (hy : V w M bs y b)
    (h : indexStrA te t a b = some (u, vc)) (hvc : vc) : ∃ v, (Instr.index t x y).run P w = .ok v w ∧ V w M bs v u := by
  unfold indexStrA at h
  split at h
  · rename_i ti hti
    have hu := run_und hte (w := w) hti
    split at h
    · rename_i s kd k hd
      rw [hd] at hu
      simp only [Option.some.injEq, Prod.mk.injEq] at h
      obtain ⟨rfl, rfl⟩ := h
      cases hx with
      | str hs =>
        cases hy
        rename_i b
        obtain ⟨h0, h1⟩ := hvc
        have hlt : k.toNat < b.size := by
          have : b.size = s.length := by rw [← hs]; simp
          omega
        refine ⟨.int .u8 (b[k.toNat]'hlt).toNat, ?_, ?_⟩
        · have e : b[k.toNat]? = some (b[k.toNat]'hlt) := by simp [hlt]
          simp [Instr.index, asIntOf, hu, h0, e]
        · have e : s.getD k.toNat 0 = b[k.toNat]'hlt := by
            rw [← hs]
            simp only [List.getD_eq_getElem?_getD, Array.getElem?_toList]
            rw [Array.getElem?_eq_getElem (show k.toNat < b.data.size from hlt)]
            rfl
          rw [e]
          exact .int
    · cases h
  · cases h

def evalPure (te : TE) (T : Nat → Option AV) (O : Nat → Option AObj) : Op → Option (AV × Prop)
  | .move x => match evO T x with
    | some u => some (u, True)
    | none => none
  | .assign x => match evO T x with
    | some u => some (u, True)
    | none => none
  | .pick c a b => match evO T c with
    | some (.bool cb) => match evO T a, evO T b with
      | some x, some y => match pickA cb x y with
        | some u => some (u, True)
        | none => none
      | _, _ => none
    | _ => none
  | .load t x => match evO T x with
    | some u => loadA te O t u
    | none => none
  | .nilCheck x => match evO T x with
    | some (.ptr r o) => some (.ptr r o, True)
    | some (.eptr r s i o) => some (.eptr r s i o, True)
    | some (.vptr g) => some (.vptr g, True)
    | _ => none
  | .binOp op t x y _ => match evO T x, evO T y with
    | some a, some b => opA te op t y a b
    | _, _ => none
  | .unOp .not _ x => match evO T x with
    | some (.bool b) => some (.bool (!b), True)
    | _ => none
  | .unOp .neg _ x => match evO T x with
    | some (.int k n) => some (.int k (0 - n), inR k (0 - n))
    | _ => none
  | .convert src dst x => match evO T x with
    | some u => convA te src dst u
    | none => none
  | .fieldAddr t x f => match evO T x with
    | some u => match fieldA te t u f with
      | some r => some (r, True)
      | none => none
    | none => none
  | .field t x f => match evO T x with
    | some u => match partA te t f u with
      | some r => some (r, True)
      | none => none
    | none => none
  | .indexAddr t x i => match evO T x, evO T i with
    | some u, some (.int _ k) => indexA te t u k
    | _, _ => none
  | .index t x i => match evO T x, evO T i with
    | some u, some k => indexStrA te t u k
    | _, _ => none
  | .slice t x lo hi mx => match evO T x, evL T lo.toList, evL T hi.toList, evL T mx.toList with
    | some u, some l, some h, some m => sliceA te t u l.head? h.head? m.head?
    | _, _, _, _ => none
  | .build t parts => match buildA te T t parts.toList with
    | some u => some (u, True)
    | none => none
  | .extract x i => match evO T x with
    | some (.tuple vs) => match vs[i]? with
      | some u => some (u, True)
      | none => none
    | _ => none
  | .makeFunc (.func f) first cap => match first.toList with
    | [] => match evL T cap.toList with
      | some l => some (.func f l, True)
      | none => none
    | _ => none
  | .makeInterface t x => match evO T x, lk te t with
    | some u, some ti => match ti.desc with
      | .interface _ => none
      | _ => some (.iface t u, True)
    | _, _ => none
  | .call { callee := .builtin .len, args, argTypes } => match argTypes.toList, args.toList with
    | [t], [x] => match evO T x with
      | some u => match lenA te t u with
        | some r => some (r, True)
        | none => none
      | none => none
    | _, _ => none
  | .call { callee := .builtin .min, args, argTypes := _ } => match args.toList with
    | [x, y] => match evO T x, evO T y with
      | some (.int k a), some (.int _ b) => some (.int k (min a b), True)
      | _, _ => none
    | _ => none
  | .call { callee := .builtin .max, args, argTypes := _ } => match args.toList with
    | [x, y] => match evO T x, evO T y with
      | some (.int k a), some (.int _ b) => some (.int k (max a b), True)
      | _, _ => none
    | _ => none
  | _ => none

theorem evalPure_sound {C : Ctx} {te : TE} (hte : TE.ok C.P te) (hn : ∀ t ti, lk te t = some ti → isAggD ti.desc = false → ti.sz = 1) {E : Ent} {O : Nat → Option AObj} {bs : Nat → Option Hd} {w : World} (hW : WRep C E O bs w)
    {N : Nat} {T : Nat → Option AV} {a : Act} (hF : FRep w (MB E O bs) bs N T a) {o : Oper} {u : AV} {vc : Prop} (h : evalPure te T O o.op = some (u, vc)) (hvc : vc) :
    ∃ v, (execOp a.eval o).run C.P w = .ok (.value v) w ∧ V w (MB E O bs) bs v u := by
  have ev := fun {x : Operand} {u : AV} (h : evO T x = some u) => evO_sound hF h
  have wrap : ∀ (s : Sem Value) v, s.run C.P w = .ok v w → (do pure (.value (← s)) : Sem Next).run C.P w = .ok (.value v) w := by
    intro s v hs; simp [hs]
  obtain ⟨dst, op, ty, pos, after, guard⟩ := o
  simp only at h
  unfold evalPure at h
  split at h
  · split at h <;> simp only [Option.some.injEq, Prod.mk.injEq, reduceCtorEq] at h
    obtain ⟨rfl, rfl⟩ := h
    rename_i hu
    exact ⟨_, rfl, ev hu⟩
  · split at h <;> simp only [Option.some.injEq, Prod.mk.injEq, reduceCtorEq] at h
    obtain ⟨rfl, rfl⟩ := h
    rename_i hu
    exact ⟨_, rfl, ev hu⟩
  · rename_i c x y
    split at h
    · rename_i cb hc
      split at h
      · rename_i ua ub ha hb
        split at h <;> simp only [Option.some.injEq, Prod.mk.injEq, reduceCtorEq] at h
        obtain ⟨rfl, rfl⟩ := h
        rename_i hp
        have hV := pickA_sound (ev ha) (ev hb) hp
        refine ⟨_, ?_, hV⟩
        have hcb := ev hc
        generalize hz : a.eval c = z at hcb
        cases hcb
        simp [execOp, hz, asBool]
      · cases h
    · cases h
  · split at h
    · rename_i hu
      obtain ⟨v, h1, h2⟩ := loadA_sound hte hn hW (ev hu) h hvc
      exact ⟨v, wrap _ _ h1, h2⟩
    · cases h
  · rename_i x
    split at h <;> simp only [Option.some.injEq, Prod.mk.injEq, reduceCtorEq] at h
    all_goals
      obtain ⟨rfl, rfl⟩ := h
      rename_i hu
      have hV := ev hu
      refine ⟨a.eval x, ?_, hV⟩
      generalize hz : a.eval x = z at hV
      cases hV
      simp [execOp, hz]
  · split at h
    · rename_i ha hb
      obtain ⟨v, h1, h2⟩ := opA_sound hte hn (ev ha) (ev hb) h hvc
      exact ⟨v, wrap _ _ h1, h2⟩
    · cases h
  · rename_i x
    split at h <;> simp only [Option.some.injEq, Prod.mk.injEq, reduceCtorEq] at h
    obtain ⟨rfl, rfl⟩ := h
    rename_i hu
    have hV := ev hu
    generalize hz : a.eval x = z at hV
    cases hV
    exact ⟨.bool _, by simp [execOp, hz, Op.unary], .bool⟩
  · rename_i x
    split at h <;> simp only [Option.some.injEq, Prod.mk.injEq, reduceCtorEq] at h
    obtain ⟨rfl, rfl⟩ := h
    rename_i hu
    have hV := ev hu
    generalize hz : a.eval x = z at hV
    cases hV
    refine ⟨.int _ _, ?_, .int⟩
    have e := wrap_in hvc
    simp [execOp, hz, Op.unary, Op.intArith] at e ⊢
    exact e
  · split at h
    · rename_i hu
      obtain ⟨v, h1, h2⟩ := convA_sound hte (ev hu) h hvc
      exact ⟨v, wrap _ _ h1, h2⟩
    · cases h
  · split at h
    · rename_i hu
      split at h <;> simp only [Option.some.injEq, Prod.mk.injEq, reduceCtorEq] at h
      obtain ⟨rfl, rfl⟩ := h
      rename_i hf
      obtain ⟨v, h1, h2⟩ := fieldA_sound hte (ev hu) hf
      exact ⟨v, wrap _ _ h1, h2⟩
    · cases h
  · split at h
    · rename_i hu
      split at h <;> simp only [Option.some.injEq, Prod.mk.injEq, reduceCtorEq] at h
      obtain ⟨rfl, rfl⟩ := h
      rename_i hf
      obtain ⟨v, h1, h2⟩ := partA_sound hte hn (ev hu) hf
      exact ⟨v, wrap _ _ h1, h2⟩
    · cases h
  · rename_i t x i
    split at h
    · rename_i hu hk
      have hV := ev hk
      generalize hz : a.eval i = z at hV
      cases hV
      obtain ⟨v, h1, h2⟩ := indexA_sound hte (ev hu) h hvc
      exact ⟨v, wrap _ _ (by rw [hz]; exact h1), h2⟩
    · cases h
  · split at h
    · rename_i hu hk
      obtain ⟨v, h1, h2⟩ := indexStrA_sound hte (ev hu) (ev hk) h hvc
      exact ⟨v, wrap _ _ h1, h2⟩
    · cases h
  · rename_i t x lo hi mx
    split at h
    · rename_i l h' m hu hl hh hm
      have one : ∀ (o : Option Operand) (r : List AV), evL T o.toList = some r → (∀ v, o.map a.eval = some v → ∃ u, r.head? = some u ∧ V w (MB E O bs) bs v u) ∧ (o.map a.eval = none → r.head? = none) := by
        intro o r hr
        cases o with
        | none =>
          simp only [Option.toList, evL, Option.some.injEq] at hr
          subst hr
          exact ⟨fun v hv => by simp at hv, fun _ => rfl⟩
        | some y =>
          simp only [Option.toList, evL] at hr
          split at hr
          · rename_i u' hu'
            simp only [Option.some.injEq] at hr
            subst hr
            exact ⟨fun v hv => by simp at hv; subst hv; exact ⟨u', rfl, ev hu'⟩, fun hv => by simp at hv⟩
          · cases hr
      obtain ⟨l1, l2⟩ := one lo l hl
      obtain ⟨h1, h2⟩ := one hi h' hh
      obtain ⟨m1, m2⟩ := one mx m hm
      obtain ⟨v, k1, k2⟩ := sliceA_sound hte (ev hu) l1 l2 h1 h2 m1 m2 h hvc
      exact ⟨v, wrap _ _ k1, k2⟩
    · cases h
  · split at h <;> simp only [Option.some.injEq, Prod.mk.injEq, reduceCtorEq] at h
    obtain ⟨rfl, rfl⟩ := h
    rename_i hb
    obtain ⟨v, h1, h2⟩ := buildA_sound hte hF hb
    exact ⟨v, wrap _ _ h1, h2⟩
  · rename_i x i
    split at h
    · rename_i vs hu
      split at h <;> simp only [Option.some.injEq, Prod.mk.injEq, reduceCtorEq] at h
      obtain ⟨rfl, rfl⟩ := h
      rename_i hi
      have hV := ev hu
      generalize hz : a.eval x = z at hV
      cases hV with
      | tuple hl hv =>
        rename_i cs
        have hlt : i < cs.size := by rw [hl]; exact (List.getElem?_eq_some_iff.1 hi).1
        refine ⟨cs[i], ?_, hv i _ _ (by simp [hlt]) hi⟩
        simp [execOp, hz, Instr.extract, hlt]
    · cases h
  · rename_i f first cap
    split at h
    · rename_i hfirst
      split at h <;> simp only [Option.some.injEq, Prod.mk.injEq, reduceCtorEq] at h
      obtain ⟨rfl, rfl⟩ := h
      rename_i hl
      obtain ⟨h1, h2⟩ := evL_sound hF _ _ hl
      refine ⟨.func (.func f) #[] (cap.map a.eval), ?_, .func (by simpa using h1) (fun j v u hv hu => h2 j v u (by simpa using hv) hu)⟩
      have : first = #[] := by
        apply Array.toList_inj.1
        simpa using hfirst
      subst this
      simp [execOp, Instr.makeFunc]
    · cases h
  · rename_i t x
    split at h
    · rename_i ti hu hti
      have hd := run_und hte (w := w) hti
      split at h
      · cases h
      · rename_i hne
        simp only [Option.some.injEq, Prod.mk.injEq] at h
        obtain ⟨rfl, rfl⟩ := h
        refine ⟨.iface t (a.eval x), ?_, .iface (ev hu)⟩
        simp only [execOp, Instr.makeInterface, Sem.run_bind, hd, Result.andThen_ok]
        rfl
    · cases h
  · rename_i args argTypes
    split at h
    · rename_i t x ht hx
      split at h
      · rename_i hu
        split at h <;> simp only [Option.some.injEq, Prod.mk.injEq, reduceCtorEq] at h
        obtain ⟨rfl, rfl⟩ := h
        rename_i hl
        have e1 : argTypes = #[t] := by apply Array.toList_inj.1; simpa using ht
        have e2 : args = #[x] := by apply Array.toList_inj.1; simpa using hx
        subst e1; subst e2
        obtain ⟨v, h1, h2⟩ := lenA_sound (ty := ty) hte (ev hu) hl
        refine ⟨v, ?_, h2⟩
        simp [execOp, resolve, invoke, builtin, h1]
      · cases h
    · cases h
  · rename_i args argTypes
    split at h
    · rename_i x y hx
      split at h <;> simp only [Option.some.injEq, Prod.mk.injEq, reduceCtorEq] at h
      obtain ⟨rfl, rfl⟩ := h
      rename_i ha hb
      have e2 : args = #[x, y] := by apply Array.toList_inj.1; simpa using hx
      subst e2
      have hV := ev ha
      have hV' := ev hb
      generalize hz : a.eval x = z at hV
      generalize hz' : a.eval y = z' at hV'
      cases hV; cases hV'
      refine ⟨.int _ _, ?_, .int⟩
      simp [execOp, resolve, invoke, builtin, Builtin.min_, hz, hz', Builtin.min2, List.foldlM]
      omega
    · cases h
  · rename_i args argTypes
    split at h
    · rename_i x y hx
      split at h <;> simp only [Option.some.injEq, Prod.mk.injEq, reduceCtorEq] at h
      obtain ⟨rfl, rfl⟩ := h
      rename_i ha hb
      have e2 : args = #[x, y] := by apply Array.toList_inj.1; simpa using hx
      subst e2
      have hV := ev ha
      have hV' := ev hb
      generalize hz : a.eval x = z at hV
      generalize hz' : a.eval y = z' at hV'
      cases hV; cases hV'
      refine ⟨.int _ _, ?_, .int⟩
      simp [execOp, resolve, invoke, builtin, Builtin.max_, hz, hz', Builtin.max2, List.foldlM]
      omega
    · cases h
  · cases h

end Go.Eng
/- The engine, part 9: new objects, and stores. -/
namespace Go.Eng

def up {α : Type} (f : Nat → Option α) (r : Nat) (x : α) : Nat → Option α := fun i => if r = i then some x else f i

theorem up_same {α : Type} (f : Nat → Option α) (r : Nat) (x : α) : up f r x r = some x := by simp [up]
theorem up_other {α : Type} (f : Nat → Option α) (r : Nat) (x : α) {i : Nat} (h : r ≠ i) : up f r x i = f i := by simp [up, h]
theorem lk_up {α : Type} (r : Nat) (x : α) (l : List (Nat × α)) : lk ((r, x) :: l) = up (lk l) r x := by funext i; rw [lk_cons]; rfl

section
variable {C : Ctx} {E : Ent} {O : Nat → Option AObj} {bs : Nat → Option Hd} {w : World}

/-- A new block, for a new object. -/
theorem WRep.new (hW : WRep C E O bs w) {r : Nat} (hb : bs r = none) {w1 : World} (h1 : w1.heap = w.heap) (h2 : w1.os = w.os) (h3 : TL C.cnt w1 w) (h4 : w1.output = w.output)
    (ob : Obj) (o : AObj) (c : Nat) (hfr : ∀ t sz n f, o ≠ .row t sz n f true)
    (hok : Step w (MB E O bs) bs (w1.alloc ob) (MB E (up O r o) (up bs r (.blk w.heap.size c))) (up bs r (.blk w.heap.size c)) → (w1.alloc ob).heap[w.heap.size]? = some ob →
      ObjOK (w1.alloc ob) (MB E (up O r o) (up bs r (.blk w.heap.size c))) (up bs r (.blk w.heap.size c)) r o) :
    Step w (MB E O bs) bs (w1.alloc ob) (MB E (up O r o) (up bs r (.blk w.heap.size c))) (up bs r (.blk w.heap.size c)) ∧ WRep C E (up O r o) (up bs r (.blk w.heap.size c)) (w1.alloc ob) := by
  have hs1 : w1.heap.size = w.heap.size := by rw [h1]
  have hnew : (w1.alloc ob).heap[w.heap.size]? = some ob := by rw [← hs1]; exact heap_alloc_new w1 ob
  have hsz : (w1.alloc ob).heap.size = w.heap.size + 1 := by simp [hs1]
  have old : ∀ i b c', bs i = some (.blk b c') → b ≠ w.heap.size := fun i b c' h => by have := hW.lt i b c' h; omega
  refine hW.next (fun _ => False) (fun i h hi => ?_) (fun i b c' hi => ?_) (fun b hb => hb.elim) (fun b hb _ => ?_) (by omega) (fun b hm => ?_) (fun hS i o' ho => ?_) (fun i j o1 o2 b c1 c2 hi hj m1 m2 bi bj => ?_)
    (fun i t sz n f b c' ho hb' => ?_) h2 ⟨h3.tape, h3.drawn⟩ h4
  · rw [up_other]
    · exact hi
    · rintro rfl; rw [hb] at hi; cases hi
  · by_cases hr : r = i
    · subst hr; rw [up_same] at hi; injection hi with hi; injection hi with e1 e2; subst e1
      right; left; omega
    · rw [up_other _ _ _ hr] at hi; exact .inl hi
  · rw [heap_alloc_old w1 ob b (by omega), h1]
  · obtain ⟨i, o', c', ho, hm, hbi⟩ := hm
    by_cases hr : r = i
    · subst hr; rw [up_same] at hbi; injection hbi with hbi; injection hbi with e1 e2; subst e1
      right; omega
    · rw [up_other _ _ _ hr] at ho hbi; exact .inl ⟨i, o', c', ho, hm, hbi⟩
  · by_cases hr : r = i
    · subst hr; rw [up_same] at ho; injection ho with ho; subst ho
      exact .inr (hok hS hnew)
    · rw [up_other _ _ _ hr] at ho; exact .inl ⟨ho, fun _ _ _ h => h⟩
  · by_cases hri : r = i
    · subst hri
      by_cases hrj : r = j
      · exact hrj
      · rw [up_same] at bi; injection bi with bi; injection bi with e1 e2; subst e1
        rw [up_other _ _ _ hrj] at bj
        exact absurd rfl (old _ _ _ bj)
    · rw [up_other _ _ _ hri] at hi bi
      by_cases hrj : r = j
      · subst hrj
        rw [up_same] at bj; injection bj with bj; injection bj with e1 e2; subst e1
        exact absurd rfl (old _ _ _ bi)
      · rw [up_other _ _ _ hrj] at hj bj
        exact hW.sep i j o1 o2 b c1 c2 hi hj m1 m2 bi bj
  · by_cases hr : r = i
    · subst hr; rw [up_same] at ho; injection ho with ho; exact absurd ho (hfr _ _ _ _)
    · rw [up_other _ _ _ hr] at ho hb'
      have hf := hW.frz i t sz n f b c' ho hb'
      refine ⟨fun hm => ?_, fun h => hf (.inl h)⟩
      obtain ⟨j, o', c'', ho', hm', hbj⟩ := hm
      by_cases hrj : r = j
      · subst hrj
        rw [up_same] at hbj; injection hbj with hbj; injection hbj with e1 e2; subst e1
        exact old _ _ _ hb' rfl
      · rw [up_other _ _ _ hrj] at ho' hbj
        exact hf (.inr ⟨j, o', c'', ho', hm', hbj⟩)

/-- A live object of our own changes in its place. -/
theorem WRep.modify (hW : WRep C E O bs w) {x : Nat} {ox o : AObj} (hO : O x = some ox) (hm : ox.mut = true) {bx cx : Nat} (hb : bs x = some (.blk bx cx)) {w' : World}
    (hheap : ∀ b, b ≠ bx → w'.heap[b]? = w.heap[b]?) (hsize : w'.heap.size = w.heap.size) (h2 : w'.os = w.os) (h3 : TL C.cnt w' w) (h4 : w'.output = w.output) (hmo : o.mut = true)
    (hok : Step w (MB E O bs) bs w' (MB E (up O x o) bs) bs → ObjOK w' (MB E (up O x o) bs) bs x o) :
    Step w (MB E O bs) bs w' (MB E (up O x o) bs) bs ∧ WRep C E (up O x o) bs w' := by
  have hxm : mutB O bs bx := ⟨x, ox, cx, hO, hm, hb⟩
  have back : ∀ b, mutB (up O x o) bs b → mutB O bs b := by
    rintro b ⟨i, o', c', ho, hm', hbi⟩
    by_cases hr : x = i
    · subst hr; exact ⟨x, ox, c', hO, hm, hbi⟩
    · rw [up_other _ _ _ hr] at ho; exact ⟨i, o', c', ho, hm', hbi⟩
  refine hW.next (fun b => b = bx) (fun i h hi => hi) (fun i b c' hi => .inl hi) (fun b hb' => by subst hb'; exact hxm) (fun b _ hne => hheap b hne) (by omega) (fun b hb' => .inl (back b hb')) (fun hS i o' ho => ?_)
    (fun i j o1 o2 b c1 c2 hi hj m1 m2 bi bj => ?_) (fun i t sz n f b c' ho hb' => ?_) h2 ⟨h3.tape, h3.drawn⟩ h4
  · by_cases hr : x = i
    · subst hr; rw [up_same] at ho; injection ho with ho; subst ho
      exact .inr (hok hS)
    · rw [up_other _ _ _ hr] at ho
      cases hmi : o'.mut with
      | true =>
        refine .inl ⟨ho, fun b c' hbi e => ?_⟩
        subst e
        exact hr (hW.sep x i ox o' b cx c' hO ho hm hmi hb hbi)
      | false =>
        cases o' with
        | dead => exact .inr trivial
        | row t sz n f fr =>
          have : fr = true := by simpa [AObj.mut] using hmi
          subst this
          refine .inl ⟨ho, fun b c' hbi e => ?_⟩
          subst e
          exact hW.frz i t sz n f b c' ho hbi (.inr hxm)
        | _ => simp [AObj.mut] at hmi
  · have bk : ∀ {k : Nat} {o' : AObj}, up O x o k = some o' → o'.mut = true → ∃ o'', O k = some o'' ∧ o''.mut = true := by
      intro k o' hk hmk
      by_cases hr : x = k
      · subst hr; exact ⟨ox, hO, hm⟩
      · rw [up_other _ _ _ hr] at hk; exact ⟨o', hk, hmk⟩
    obtain ⟨o1', h1, m1'⟩ := bk hi m1
    obtain ⟨o2', h2', m2'⟩ := bk hj m2
    exact hW.sep i j o1' o2' b c1 c2 h1 h2' m1' m2' bi bj
  · by_cases hr : x = i
    · subst hr; rw [up_same] at ho; injection ho with ho; subst ho; simp [AObj.mut] at hmo
    · rw [up_other _ _ _ hr] at ho
      have hf := hW.frz i t sz n f b c' ho hb'
      exact ⟨fun h => hf (.inr (back b h)), fun h => hf (.inl h)⟩

/-- An object is given up: nobody writes it any more, and nobody reads it. -/
theorem WRep.kill (hW : WRep C E O bs w) (x : Nat) : Step w (MB E O bs) bs w (MB E (up O x .dead) bs) bs ∧ WRep C E (up O x .dead) bs w := by
  have back : ∀ b, mutB (up O x .dead) bs b → mutB O bs b := by
    rintro b ⟨i, o', c', ho, hm', hbi⟩
    by_cases hr : x = i
    · subst hr; rw [up_same] at ho; injection ho with ho; subst ho; simp [AObj.mut] at hm'
    · rw [up_other _ _ _ hr] at ho; exact ⟨i, o', c', ho, hm', hbi⟩
  refine hW.next (fun _ => False) (fun i h hi => hi) (fun i b c' hi => .inl hi) (fun b hb' => hb'.elim) (fun b _ _ => rfl) (Nat.le_refl _) (fun b hb' => .inl (back b hb')) (fun hS i o' ho => ?_)
    (fun i j o1 o2 b c1 c2 hi hj m1 m2 bi bj => ?_) (fun i t sz n f b c' ho hb' => ?_) rfl ⟨rfl, fun _ => Nat.le_refl _⟩ rfl
  · by_cases hr : x = i
    · subst hr; rw [up_same] at ho; injection ho with ho; subst ho; exact .inr trivial
    · rw [up_other _ _ _ hr] at ho; exact .inl ⟨ho, fun _ _ _ h => h⟩
  · have bk : ∀ {k : Nat} {o' : AObj}, up O x .dead k = some o' → o'.mut = true → O k = some o' := by
      intro k o' hk hmk
      by_cases hr : x = k
      · subst hr; rw [up_same] at hk; injection hk with hk; subst hk; simp [AObj.mut] at hmk
      · rw [up_other _ _ _ hr] at hk; exact hk
    exact hW.sep i j o1 o2 b c1 c2 (bk hi m1) (bk hj m2) m1 m2 bi bj
  · by_cases hr : x = i
    · subst hr; rw [up_same] at ho; injection ho with ho; cases ho
    · rw [up_other _ _ _ hr] at ho
      have hf := hW.frz i t sz n f b c' ho hb'
      exact ⟨fun h => hf (.inr (back b h)), fun h => hf (.inl h)⟩

/-- A row is frozen: nobody writes it any more. -/
theorem WRep.freeze (hW : WRep C E O bs w) {x : Nat} {t : TypeId} {sz n : Nat} {f : Nat → List AV} {fr : Bool} (hx : O x = some (.row t sz n f fr)) :
    Step w (MB E O bs) bs w (MB E (up O x (.row t sz n f true)) bs) bs ∧ WRep C E (up O x (.row t sz n f true)) bs w := by
  have back : ∀ b, mutB (up O x (.row t sz n f true)) bs b → mutB O bs b ∧ ∀ c, bs x = some (.blk b c) → fr = true := by
    rintro b ⟨i, o', c', ho, hm', hbi⟩
    by_cases hr : x = i
    · subst hr; rw [up_same] at ho; injection ho with ho; subst ho; simp [AObj.mut] at hm'
    · rw [up_other _ _ _ hr] at ho
      refine ⟨⟨i, o', c', ho, hm', hbi⟩, fun c hbx => ?_⟩
      cases fr with
      | true => rfl
      | false => exact absurd (hW.sep x i _ o' b c c' hx ho rfl hm' hbx hbi) hr
  refine hW.next (fun _ => False) (fun i h hi => hi) (fun i b c' hi => .inl hi) (fun b hb' => hb'.elim) (fun b _ _ => rfl) (Nat.le_refl _) (fun b hb' => .inl (back b hb').1) (fun hS i o' ho => ?_)
    (fun i j o1 o2 b c1 c2 hi hj m1 m2 bi bj => ?_) (fun i t' sz' n' f' b c' ho hb' => ?_) rfl ⟨rfl, fun _ => Nat.le_refl _⟩ rfl
  · by_cases hr : x = i
    · subst hr; rw [up_same] at ho; injection ho with ho; subst ho
      exact .inr ((hW.obj x _ hx).step hS fun _ _ _ => rfl)
    · rw [up_other _ _ _ hr] at ho; exact .inl ⟨ho, fun _ _ _ h => h⟩
  · have bk : ∀ {k : Nat} {o' : AObj}, up O x (.row t sz n f true) k = some o' → o'.mut = true → O k = some o' := by
      intro k o' hk hmk
      by_cases hr : x = k
      · subst hr; rw [up_same] at hk; injection hk with hk; subst hk; simp [AObj.mut] at hmk
      · rw [up_other _ _ _ hr] at hk; exact hk
    exact hW.sep i j o1 o2 b c1 c2 (bk hi m1) (bk hj m2) m1 m2 bi bj
  · by_cases hr : x = i
    · subst hr
      cases fr with
      | true =>
        have hf := hW.frz x t sz n f b c' hx hb'
        exact ⟨fun h => hf (.inr (back b h).1), fun h => hf (.inl h)⟩
      | false =>
        refine ⟨fun h => ?_, fun h => hW.out b ⟨x, _, c', hx, rfl, hb'⟩ h⟩
        cases (back b h).2 c' hb'
    · rw [up_other _ _ _ hr] at ho
      have hf := hW.frz i t' sz' n' f' b c' ho hb'
      exact ⟨fun h => hf (.inr (back b h).1), fun h => hf (.inl h)⟩
end

end Go.Eng
/- The engine, part 10: append. -/
namespace Go.Eng

section
variable {C : Ctx} {E : Ent} {O : Nat → Option AObj} {bs : Nat → Option Hd} {w : World}

/-- An object is given up, and a new one takes its block. -/
theorem WRep.move (hW : WRep C E O bs w) {x : Nat} {ox : AObj} (hx : O x = some ox) (hm : ox.mut = true) {bx cx : Nat} (hbx : bs x = some (.blk bx cx)) {r : Nat} (hO : O r = none) (hb : bs r = none) {w' : World}
    (hheap : ∀ b, b ≠ bx → w'.heap[b]? = w.heap[b]?) (hsize : w'.heap.size = w.heap.size) (h2 : w'.os = w.os) (h3 : TL C.cnt w' w) (h4 : w'.output = w.output) (o : AObj) (hmo : o.mut = true) (c : Nat)
    (hok : Step w (MB E O bs) bs w' (MB E (up (up O x .dead) r o) (up bs r (.blk bx c))) (up bs r (.blk bx c)) → ObjOK w' (MB E (up (up O x .dead) r o) (up bs r (.blk bx c))) (up bs r (.blk bx c)) r o) :
    Step w (MB E O bs) bs w' (MB E (up (up O x .dead) r o) (up bs r (.blk bx c))) (up bs r (.blk bx c)) ∧ WRep C E (up (up O x .dead) r o) (up bs r (.blk bx c)) w' := by
  have hxr : x ≠ r := by rintro rfl; rw [hx] at hO; cases hO
  have hxm : mutB O bs bx := ⟨x, ox, cx, hx, hm, hbx⟩
  have back : ∀ k o', up (up O x .dead) r o k = some o' → o'.mut = true → (k = r ∧ o' = o) ∨ (k ≠ r ∧ k ≠ x ∧ O k = some o') := by
    intro k o' hk hmk
    by_cases hr : r = k
    · subst hr; rw [up_same] at hk; injection hk with hk; exact .inl ⟨rfl, hk.symm⟩
    · rw [up_other _ _ _ hr] at hk
      by_cases hxk : x = k
      · subst hxk; rw [up_same] at hk; injection hk with hk; subst hk; simp [AObj.mut] at hmk
      · rw [up_other _ _ _ hxk] at hk; exact .inr ⟨Ne.symm hr, Ne.symm hxk, hk⟩
  have hmb : ∀ b, mutB (up (up O x .dead) r o) (up bs r (.blk bx c)) b → mutB O bs b := by
    rintro b ⟨i, o', c', ho, hm', hbi⟩
    rcases back i o' ho hm' with ⟨rfl, rfl⟩ | ⟨h1, _, h3⟩
    · rw [up_same] at hbi; injection hbi with hbi; injection hbi with e1 e2; subst e1; exact hxm
    · rw [up_other _ _ _ (Ne.symm h1)] at hbi; exact ⟨i, o', c', h3, hm', hbi⟩
  refine hW.next (fun b => b = bx) (fun i h hi => ?_) (fun i b c' hi => ?_) (fun b hb' => by subst hb'; exact hxm) (fun b _ hne => hheap b hne) (by omega) (fun b hb' => .inl (hmb b hb')) (fun hS i o' ho => ?_)
    (fun i j o1 o2 b c1 c2 hi hj m1 m2 bi bj => ?_) (fun i t sz n f b c' ho hb' => ?_) h2 h3 h4
  · rw [up_other]
    · exact hi
    · rintro rfl; rw [hb] at hi; cases hi
  · by_cases hr : r = i
    · subst hr; rw [up_same] at hi; injection hi with hi; injection hi with e1 e2; subst e1; exact .inr (.inr hxm)
    · rw [up_other _ _ _ hr] at hi; exact .inl hi
  · by_cases hr : r = i
    · subst hr; rw [up_same] at ho; injection ho with ho; subst ho; exact .inr (hok hS)
    · rw [up_other _ _ _ hr] at ho
      by_cases hxi : x = i
      · subst hxi; rw [up_same] at ho; injection ho with ho; subst ho; exact .inr trivial
      · rw [up_other _ _ _ hxi] at ho
        cases hmi : o'.mut with
        | true =>
          refine .inl ⟨ho, fun b c' hbi e => ?_⟩
          subst e
          exact hxi (hW.sep x i ox o' b cx c' hx ho hm hmi hbx hbi)
        | false =>
          cases o' with
          | dead => exact .inr trivial
          | row t sz n f fr =>
            have : fr = true := by simpa [AObj.mut] using hmi
            subst this
            refine .inl ⟨ho, fun b c' hbi e => ?_⟩
            subst e
            exact hW.frz i t sz n f b c' ho hbi (.inr hxm)
          | _ => simp [AObj.mut] at hmi
  · rcases back i o1 hi m1 with ⟨rfl, rfl⟩ | ⟨a1, a2, a3⟩
    · rcases back j o2 hj m2 with ⟨rfl, rfl⟩ | ⟨b1, b2, b3⟩
      · rfl
      · rw [up_same] at bi; injection bi with bi; injection bi with e1 e2; subst e1
        rw [up_other _ _ _ (Ne.symm b1)] at bj
        exact absurd (hW.sep j x o2 ox bx c2 cx b3 hx m2 hm bj hbx) b2
    · rw [up_other _ _ _ (Ne.symm a1)] at bi
      rcases back j o2 hj m2 with ⟨rfl, rfl⟩ | ⟨b1, b2, b3⟩
      · rw [up_same] at bj; injection bj with bj; injection bj with e1 e2; subst e1
        exact absurd (hW.sep i x o1 ox bx c1 cx a3 hx m1 hm bi hbx) a2
      · rw [up_other _ _ _ (Ne.symm b1)] at bj
        exact hW.sep i j o1 o2 b c1 c2 a3 b3 m1 m2 bi bj
  · by_cases hr : r = i
    · subst hr; rw [up_same] at ho; injection ho with ho; subst ho; simp [AObj.mut] at hmo
    · rw [up_other _ _ _ hr] at ho hb'
      by_cases hxi : x = i
      · subst hxi; rw [up_same] at ho; injection ho with ho; cases ho
      · rw [up_other _ _ _ hxi] at ho
        have hf := hW.frz i t sz n f b c' ho hb'
        exact ⟨fun h => hf (.inr (hmb b h)), fun h => hf (.inl h)⟩

/-- A new row that is nowhere: a nil slice. -/
theorem WRep.newnil (hW : WRep C E O bs w) {r : Nat} (hb : bs r = none) (t : TypeId) (sz : Nat) (f : Nat → List AV) {n : Nat} (hn : n = 0) :
    Step w (MB E O bs) bs w (MB E (up O r (.row t sz n f false)) (up bs r .nil)) (up bs r .nil) ∧ WRep C E (up O r (.row t sz n f false)) (up bs r .nil) w := by
  have nb : ∀ i b c, up bs r .nil i = some (.blk b c) → bs i = some (.blk b c) ∧ i ≠ r := by
    intro i b c hi
    by_cases hr : r = i
    · subst hr; rw [up_same] at hi; injection hi with hi; cases hi
    · rw [up_other _ _ _ hr] at hi; exact ⟨hi, Ne.symm hr⟩
  have hmb : ∀ b, mutB (up O r (.row t sz n f false)) (up bs r .nil) b → mutB O bs b := by
    rintro b ⟨i, o', c', ho, hm', hbi⟩
    obtain ⟨h1, h2⟩ := nb i b c' hbi
    rw [up_other _ _ _ (Ne.symm h2)] at ho
    exact ⟨i, o', c', ho, hm', h1⟩
  refine hW.next (fun _ => False) (fun i h hi => ?_) (fun i b c' hi => .inl (nb i b c' hi).1) (fun b hb' => hb'.elim) (fun b _ _ => rfl) (Nat.le_refl _) (fun b hb' => .inl (hmb b hb')) (fun hS i o' ho => ?_)
    (fun i j o1 o2 b c1 c2 hi hj m1 m2 bi bj => ?_) (fun i t' sz' n' f' b c' ho hb' => ?_) rfl ⟨rfl, fun _ => Nat.le_refl _⟩ rfl
  · rw [up_other]
    · exact hi
    · rintro rfl; rw [hb] at hi; cases hi
  · by_cases hr : r = i
    · subst hr; rw [up_same] at ho; injection ho with ho; subst ho; exact .inr (.inl ⟨up_same _ _ _, hn⟩)
    · rw [up_other _ _ _ hr] at ho; exact .inl ⟨ho, fun _ _ _ h => h⟩
  · obtain ⟨b1, r1⟩ := nb i b c1 bi
    obtain ⟨b2, r2⟩ := nb j b c2 bj
    rw [up_other _ _ _ (Ne.symm r1)] at hi
    rw [up_other _ _ _ (Ne.symm r2)] at hj
    exact hW.sep i j o1 o2 b c1 c2 hi hj m1 m2 b1 b2
  · obtain ⟨b1, r1⟩ := nb i b c' hb'
    rw [up_other _ _ _ (Ne.symm r1)] at ho
    have hf := hW.frz i t' sz' n' f' b c' ho b1
    exact ⟨fun h => hf (.inr (hmb b h)), fun h => hf (.inl h)⟩
end

/-- What append does to a slice of our own (or without capacity), told in three ways. -/
theorem run_app {P : Program} {te : TE} (hte : TE.ok P te) {w : World} {t e : TypeId} {ti tie : TI} (ht : lk te t = some ti) (hd : ti.desc = .slice e) (he : lk te e = some tie) (hz : tie.zero.cells.size = tie.sz)
    {ty : TypeId} {As : Option Addr} {n c : Nat} (olds : List Value)
    (hs : (n = 0 ∧ c = 0 ∧ olds = []) ∨ ∃ b vs, As = some ⟨b, 0, none⟩ ∧ w.heap[b]? = some (.cells vs e (0, 0)) ∧ n ≤ c ∧ vs.size = c * tie.sz ∧ olds = vs.toList.take (n * tie.sz))
    {A : Option Addr} {m c' : Nat} (news : List Value) (hl : news.length = m * tie.sz) (hA : 0 < m → ∃ ad, A = some ad ∧ ∀ j u, news[j]? = some u → w.cell? (ad.add j) = some u) (h1 : ∀ u ∈ news, u.oneCell' = true)
    (h63 : n + m ≤ maxLen) (hb : (n + m) * tie.bytes ≤ 140737488355328) :
    ∃ v' w', (Builtin.append_ #[t, t] ty #[.slice As n c, .slice A m c']).run P w = .ok v' w' ∧
      ((m = 0 ∧ v' = .slice As n c ∧ w' = w) ∨
       (∃ b vs, 0 < m ∧ As = some ⟨b, 0, none⟩ ∧ w.heap[b]? = some (.cells vs e (0, 0)) ∧ n + m ≤ c ∧ v' = .slice As (n + m) c ∧ vs.size = c * tie.sz ∧ olds = vs.toList.take (n * tie.sz) ∧
          w' = w.setRow b (vs.toList.take (n * tie.sz) ++ news ++ vs.toList.drop (n * tie.sz + news.length)).toArray) ∨
       (∃ cap zs, n + m ≤ cap ∧ cap ≤ maxLen ∧ zs.size = (cap - (n + m)) * tie.sz ∧ v' = .slice (some ⟨w.heap.size, 0, none⟩) (n + m) cap ∧ w' = w.drew.alloc (.cells (olds.toArray ++ news.toArray ++ zs) e))) := by
  obtain ⟨hu, _, _⟩ := hte t ti ht
  rw [hd] at hu
  obtain ⟨_, ⟨i, hi, his, hib, hiz⟩, _⟩ := hte e tie he
  have hmax : n + m ≤ 9223372036854775807 := by simp only [maxLen] at h63; omega
  rcases Nat.eq_zero_or_pos m with h0 | h0
  · subst h0
    have hnews : news = [] := List.eq_nil_of_length_eq_zero (by simpa using hl)
    subst hnews
    refine ⟨.slice As n c, w, ?_, .inl ⟨rfl, rfl, rfl⟩⟩
    have hnc : n ≤ c := by
      rcases hs with ⟨h1, h2, _⟩ | ⟨b, vs, _, _, h, _⟩ <;> omega
    have hf : (Builtin.firstCells i.size 0 (.slice A 0 c')).run P w = .ok #[] w := by
      cases A with
      | none => simp [Builtin.firstCells]
      | some a => simp [Builtin.firstCells, loadCells, loadCellsFrom]
    cases As with
    | none => simp [Builtin.append_, run_underlying hu, sizeOf, typeInfo, hi, Builtin.lenOf, hnc, hf]
    | some a => simp [Builtin.append_, run_underlying hu, sizeOf, typeInfo, hi, Builtin.lenOf, hnc, hf, storeCells]
  · obtain ⟨ad, rfl, hnews⟩ := hA h0
    have cap_of : ∀ old, grownCap w (n + m) old e ≥ n + m ∧ grownCap w (n + m) old e ≤ maxLen := fun old => ⟨grownCap_ge w (n + m) old e, grownCap_le_maxLen w (n + m) old e h63⟩
    rcases hs with ⟨rfl, rfl, rfl⟩ | ⟨b, vs, rfl, hh, hnc, hvs, rfl⟩
    · cases As with
      | none =>
        have hr := run_append_nil (P := P) w t ty e i tie.zero hu hi hiz ad m c' news (by rw [his]; exact hl) hnews h0 (by omega) (by rw [hib]; simp only [Nat.zero_add] at hb; omega)
        refine ⟨_, _, hr, .inr (.inr ⟨grownCap w m 0 e, Builtin.zeroCells tie.zero.cells (grownCap w m 0 e - m), ?_, ?_, ?_, by simp, by simp⟩)⟩
        · have := (cap_of 0).1; simpa using this
        · have := (cap_of 0).2; simpa using this
        · rw [size_zeroCells, hz]; simp
      | some a =>
        have hr := run_append_grow (P := P) w t ty e i tie.zero hu hi hiz a 0 0 [] (by simp) (by simp) ad m c' news (by rw [his]; exact hl) hnews (by omega) (by omega) (growslice_fits (by omega) (by rw [hib]; exact hb))
        refine ⟨_, _, hr, .inr (.inr ⟨grownCap w (0 + m) 0 e, Builtin.zeroCells tie.zero.cells (grownCap w (0 + m) 0 e - (0 + m)), (cap_of 0).1, (cap_of 0).2, ?_, rfl, rfl⟩)⟩
        rw [size_zeroCells, hz]
    · by_cases hroom : n + m ≤ c
      · have hfit : n * i.size + news.length ≤ vs.size := by rw [his, hl, hvs, ← Nat.add_mul]; exact Nat.mul_le_mul_right _ hroom
        have hr := run_append_room (P := P) w t ty e i hu hi b n c vs hh ad m c' news (by rw [his]; exact hl) hnews h1 hroom hfit
        rw [his] at hr
        exact ⟨_, _, hr, .inr (.inl ⟨b, vs, h0, rfl, hh, hroom, rfl, hvs, rfl, rfl⟩)⟩
      · have hle : n * tie.sz ≤ vs.size := by rw [hvs]; exact Nat.mul_le_mul_right _ hnc
        have hol : (vs.toList.take (n * tie.sz)).length = n * i.size := by rw [his]; simp; omega
        have holds : ∀ j u, (vs.toList.take (n * tie.sz))[j]? = some u → w.cell? ((⟨b, 0, none⟩ : Addr).add j) = some u := by
          intro j u hu
          rw [Addr.add_lit, Nat.zero_add, cell_of_row w b j vs e (0, 0) hh]
          rw [List.getElem?_take] at hu
          split at hu
          · simpa using hu
          · cases hu
        have hr := run_append_grow (P := P) w t ty e i tie.zero hu hi hiz ⟨b, 0, none⟩ n c _ hol holds ad m c' news (by rw [his]; exact hl) hnews (by omega) (by omega) (growslice_fits (by omega) (by rw [hib]; exact hb))
        refine ⟨_, _, hr, .inr (.inr ⟨grownCap w (n + m) c e, Builtin.zeroCells tie.zero.cells (grownCap w (n + m) c e - (n + m)), (cap_of c).1, (cap_of c).2, ?_, rfl, rfl⟩)⟩
        rw [size_zeroCells, hz]

end Go.Eng
/- The engine, part 11: the operations that make or change memory, in one function. -/
namespace Go.Eng

def upL (O : Nat → Option AObj) : List (Nat × AObj) → Nat → Option AObj
  | [] => O
  | (r, o) :: l => up (upL O l) r o

theorem lk_upL (l O : List (Nat × AObj)) : lk (l ++ O) = upL (lk O) l := by
  induction l with
  | nil => rfl
  | cons p l ih => obtain ⟨r, o⟩ := p; simp only [List.cons_append, lk_up, ih, upL]

/-- Rows of a literal list of cells; of strings alone, by a list of strings. -/
def strsA : List AV → Option (List (List UInt8))
  | [] => some []
  | .str s :: l => match strsA l with
    | some r => some (s :: r)
    | none => none
  | _ :: _ => none

/-- .. of numbers alone, by a list of numbers. -/
def intsA : List AV → Option (List Int)
  | [] => some []
  | .int .i64 n :: l => match intsA l with
    | some r => some (n :: r)
    | none => none
  | _ :: _ => none
def rowI : Nat → Nat → List Int → List AV
  | 0, _, _ => []
  | n + 1, b, l => .int .i64 (l.getD b 0) :: rowI n (b + 1) l

def chunkA (sz : Nat) (cs : List AV) (i : Nat) : List AV := match sz with
  | 1 => match strsA cs with
    | some ss => [.str (ss.getD i [])]
    | none => match intsA cs with
      | some ns => [.int .i64 (ns.getD i 0)]
      | none => (cs.drop i).take 1
  | sz => match intsA cs with
    | some ns => rowI sz (i * sz) ns
    | none => (cs.drop (i * sz)).take sz

theorem intsA_spec : ∀ (cs : List AV) (ns : List Int), intsA cs = some ns → cs = ns.map (.int .i64)
  | [], ss, h => by simp only [intsA, Option.some.injEq] at h; subst h; rfl
  | c :: l, ss, h => by
    unfold intsA at h
    split at h
    · rename_i e; cases e
    · rename_i n l' e
      injection e with e1 e2
      subst e1 e2
      split at h
      · rename_i r hr
        simp only [Option.some.injEq] at h
        subst h
        rw [intsA_spec _ r hr]
        rfl
      · cases h
    · cases h
theorem rowI_len : ∀ (n b : Nat) (l : List Int), (rowI n b l).length = n
  | 0, _, _ => rfl
  | n + 1, b, l => by rw [rowI, List.length_cons, rowI_len n]
theorem rowI_at : ∀ (n b : Nat) (l : List Int) (j : Nat), j < n → (rowI n b l)[j]? = some (.int .i64 (l.getD (b + j) 0))
  | 0, _, _, j, h => by omega
  | n + 1, b, l, 0, _ => rfl
  | n + 1, b, l, j + 1, h => by
    rw [rowI, List.getElem?_cons_succ, rowI_at n (b + 1) l j (by omega), show b + 1 + j = b + (j + 1) by omega]

theorem strsA_spec : ∀ (cs : List AV) (ss : List (List UInt8)), strsA cs = some ss → cs = ss.map .str
  | [], ss, h => by simp only [strsA, Option.some.injEq] at h; subst h; rfl
  | c :: l, ss, h => by
    cases c with
    | str s =>
      simp only [strsA] at h
      split at h
      · rename_i r hr
        simp only [Option.some.injEq] at h
        subst h
        rw [strsA_spec l r hr]
        rfl
      · cases h
    | _ => simp [strsA] at h

theorem chunkA_spec (sz n : Nat) (cs : List AV) (hl : cs.length = n * sz) : (∀ i, i < n → (chunkA sz cs i).length = sz) ∧ ∀ i, i < n → ∀ j u, j < sz → (chunkA sz cs i)[j]? = some u → cs[i * sz + j]? = some u := by
  have gen : (∀ i, i < n → ((cs.drop (i * sz)).take sz).length = sz) ∧ ∀ i, i < n → ∀ j u, j < sz → ((cs.drop (i * sz)).take sz)[j]? = some u → cs[i * sz + j]? = some u := by
    refine ⟨fun i hi => ?_, fun i hi j u hj hu => ?_⟩
    · have : (i + 1) * sz ≤ n * sz := Nat.mul_le_mul_right _ (by omega)
      rw [Nat.add_mul, Nat.one_mul] at this
      simp; omega
    · rw [List.getElem?_take, if_pos hj, List.getElem?_drop] at hu
      exact hu
  by_cases h1 : sz = 1
  · subst h1
    cases hss : strsA cs with
    | some ss =>
      have := strsA_spec cs ss hss
      simp only [chunkA, hss]
      refine ⟨fun i _ => rfl, fun i hi j u hj hu => ?_⟩
      obtain rfl : j = 0 := by omega
      simp only [List.getElem?_cons_zero, Option.some.injEq] at hu
      subst hu
      have hlen : i < ss.length := by rw [this] at hl; simp at hl; omega
      rw [this]
      simp [hlen]
    | none =>
      cases hns : intsA cs with
      | some ns =>
        have hcs := intsA_spec cs ns hns
        simp only [chunkA, hss, hns]
        refine ⟨fun i _ => rfl, fun i hi j u hj hu => ?_⟩
        obtain rfl : j = 0 := by omega
        simp only [List.getElem?_cons_zero, Option.some.injEq] at hu
        subst hu
        have hlen : i < ns.length := by rw [hcs] at hl; simp at hl; omega
        rw [hcs]
        simp [hlen]
      | none => simpa [chunkA, hss, hns] using gen
  cases hns : intsA cs with
  | some ns =>
    have hcs := intsA_spec cs ns hns
    have e : ∀ i, chunkA sz cs i = rowI sz (i * sz) ns := by
      intro i
      unfold chunkA
      split
      · exact absurd rfl h1
      · simp only [hns]
    refine ⟨fun i _ => by rw [e, rowI_len], fun i hi j u hj hu => ?_⟩
    rw [e, rowI_at _ _ _ _ hj] at hu
    rw [← hu, hcs]
    have hlen : ns.length = n * sz := by rw [hcs] at hl; simpa using hl
    have : (i + 1) * sz ≤ n * sz := Nat.mul_le_mul_right _ (by omega)
    rw [Nat.add_mul, Nat.one_mul] at this
    simp [List.getD, show i * sz + j < ns.length by omega]
  | none =>
    have e : ∀ i, chunkA sz cs i = (cs.drop (i * sz)).take sz := by
      intro i
      unfold chunkA
      split
      · exact absurd rfl h1
      · rw [hns]
    simp only [e]
    exact gen

def apF (n : Nat) (f g : Nat → List AV) : Nat → List AV := fun i => if i < n then f i else g (i - n)

/-- What is appended. -/
def srcA (O : Nat → Option AObj) (sz : Nat) : AV → Option (Nat × (Nat → List AV) × Prop)
  | .view sz' m g => some (m, g, sz' = sz)
  | .own y m => match O y with
    | some (.row _ sz' n g _) => some (m, g, m ≤ n ∧ sz' = sz)
    | _ => none
  | .sub y sz'' off m => match O y with
    | some (.row _ sz' n g _) => some (m, fun i => g (off + i), off + m ≤ n ∧ sz' = sz ∧ sz'' = sz)
    | _ => none
  | .nil => some (0, fun _ => [], True)
  | .empty => some (0, fun _ => [], True)
  | _ => none

def SrcOK (w : World) (M : Nat → Prop) (bs : Nat → Option Hd) (v : Value) (sz m : Nat) (g : Nat → List AV) : Prop :=
  ∃ (A : Option Addr) (c : Nat) (news : List Value), v = .slice A m c ∧ news.length = m * sz ∧ (0 < m → ∃ ad, A = some ad ∧ ∀ j u, news[j]? = some u → w.cell? (ad.add j) = some u) ∧ (∀ u ∈ news, Value.oneCell' u = true) ∧ (∀ i, i < m → (g i).length = sz) ∧
    ∀ i, i < m → ∀ j u x, j < sz → (g i)[j]? = some u → news[i * sz + j]? = some x → V w M bs x u

theorem row_src {w : World} {M : Nat → Prop} {bs : Nat → Option Hd} {b c n sz m off : Nat} {vs : Array Value} {t : TypeId} {g : Nat → List AV} (hh : w.heap[b]? = some (.cells vs t (0, 0))) (hvs : vs.size = c * sz) (hn : n ≤ c) (hm : off + m ≤ n)
    (hl : ∀ i, i < n → (g i).length = sz) (h1 : ∀ i, i < n → ∀ j, j < sz → ∀ v : Value, vs[i * sz + j]? = some v → v.oneCell' = true) (hV : ∀ i, i < n → ∀ (j : Nat) v u, j < sz → vs[i * sz + j]? = some v → (g i)[j]? = some u → V w M bs v u)
    {A : Option Addr} {c' : Nat} (hA : 0 < m → A = some ⟨b, off * sz, none⟩) : SrcOK w M bs (.slice A m c') sz m fun i => g (off + i) := by
  have hle : off * sz + m * sz ≤ vs.size := by rw [hvs, ← Nat.add_mul]; exact Nat.mul_le_mul_right _ (by omega)
  have get : ∀ j, j < m * sz → ((vs.toList.drop (off * sz)).take (m * sz))[j]? = vs[off * sz + j]? := by
    intro j hj
    rw [List.getElem?_take, if_pos hj, List.getElem?_drop, Array.getElem?_toList]
  have len : ((vs.toList.drop (off * sz)).take (m * sz)).length = m * sz := by simp; omega
  refine ⟨A, c', (vs.toList.drop (off * sz)).take (m * sz), rfl, len, fun h0 => ?_, fun u hu => ?_, fun i hi => hl _ (by omega), fun i hi j u x hj hu hx => ?_⟩
  · refine ⟨_, hA h0, fun j u hu => ?_⟩
    have hj : j < m * sz := by rw [← len]; exact (List.getElem?_eq_some_iff.1 hu).1
    rw [get j hj] at hu
    rw [Addr.add_lit, cell_of_row w b _ vs t (0, 0) hh]
    exact hu
  · obtain ⟨j, hj, e⟩ := List.mem_iff_getElem.1 hu
    have hj' : j < m * sz := by rw [← len]; exact hj
    have hsz : 0 < sz := by
      rcases Nat.eq_zero_or_pos sz with h | h
      · subst h; simp at hj'
      · exact h
    have hx : vs[off * sz + j]? = some u := by rw [← get j hj', List.getElem?_eq_getElem hj, e]
    have hd := Nat.div_add_mod j sz
    have hq : j / sz < m := by rw [Nat.div_lt_iff_lt_mul hsz]; exact hj'
    refine h1 (off + j / sz) (by omega) (j % sz) (Nat.mod_lt _ hsz) u ?_
    rw [← hx, Nat.add_mul, Nat.mul_comm (j / sz) sz]
    congr 1
    omega
  · have hlt : i * sz + j < m * sz := by
      have : (i + 1) * sz ≤ m * sz := Nat.mul_le_mul_right _ (by omega)
      rw [Nat.add_mul, Nat.one_mul] at this
      omega
    rw [get _ hlt] at hx
    refine hV (off + i) (by omega) j x u hj ?_ hu
    rw [← hx, Nat.add_mul, Nat.add_assoc]

theorem srcA_sound {C : Ctx} {E : Ent} {O : Nat → Option AObj} {bs : Nat → Option Hd} {w : World} (hW : WRep C E O bs w) {v : Value} {u : AV} {sz m : Nat} {g : Nat → List AV} {vc : Prop}
    (hv : V w (MB E O bs) bs v u) (h : srcA O sz u = some (m, g, vc)) (hvc : vc) : SrcOK w (MB E O bs) bs v sz m g := by
  have none_ : ∀ A c (g : Nat → List AV), SrcOK w (MB E O bs) bs (.slice A 0 c) sz 0 g := fun A c g =>
    ⟨A, c, [], rfl, by simp, fun h => absurd h (by omega), fun u hu => by simp at hu, fun i hi => absurd hi (by omega), fun i hi => absurd hi (by omega)⟩
  unfold srcA at h
  split at h
  · simp only [Option.some.injEq, Prod.mk.injEq] at h
    obtain ⟨rfl, rfl, rfl⟩ := h
    subst hvc
    cases hv with
    | view ad cv hn hcm hA hl hc h1 hV =>
      rename_i sz n f A c
      refine ⟨A, c, (List.range (n * sz)).map fun j => cv (j / sz) (j % sz), rfl, by simp, fun h0 => ?_, fun u hu => ?_, hl, fun i hi j u x hj hu hx => ?_⟩
      · obtain ⟨rfl, hM, hb⟩ := hA h0
        refine ⟨ad, rfl, fun j u hu => ?_⟩
        have hj : j < n * sz := by have := (List.getElem?_eq_some_iff.1 hu).1; simpa using this
        have hsz : 0 < sz := by
          rcases Nat.eq_zero_or_pos sz with h | h
          · subst h; simp at hj
          · exact h
        simp [hj] at hu
        subst hu
        have hq : j / sz < n := by rw [Nat.div_lt_iff_lt_mul hsz]; exact hj
        have := hc (j / sz) hq (j % sz) (Nat.mod_lt _ hsz)
        rwa [show j / sz * sz + j % sz = j by rw [Nat.mul_comm]; exact Nat.div_add_mod j sz] at this
      · simp only [List.mem_map, List.mem_range] at hu
        obtain ⟨j, hj, rfl⟩ := hu
        have hsz : 0 < sz := by
          rcases Nat.eq_zero_or_pos sz with h | h
          · subst h; simp at hj
          · exact h
        exact h1 _ (by rw [Nat.div_lt_iff_lt_mul hsz]; exact hj) _ (Nat.mod_lt _ hsz)
      · have hlt : i * sz + j < n * sz := by
          have : (i + 1) * sz ≤ n * sz := Nat.mul_le_mul_right _ (by omega)
          rw [Nat.add_mul, Nat.one_mul] at this
          omega
        simp [hlt] at hx
        subst hx
        have e1 : (i * sz + j) / sz = i := by rw [Nat.mul_comm, Nat.mul_add_div (by omega), Nat.div_eq_of_lt hj]; simp
        rw [e1, Nat.mod_eq_of_lt hj]
        exact (hV i hi j u hu).lift
  · split at h
    · rename_i y m _ t sz' n g fr ho
      simp only [Option.some.injEq, Prod.mk.injEq] at h
      obtain ⟨rfl, rfl, rfl⟩ := h
      obtain ⟨hmn, rfl⟩ := hvc
      cases hv with
      | own hb hn hcm =>
        rename_i b c
        rcases hW.obj y _ ho with ⟨h1, h2⟩ | ⟨b', c', vs, hb', hh, hnc, hcm', hvs, hl, h1, hV⟩
        · rw [h1] at hb; cases hb
        · rw [hb'] at hb
          injection hb with hb
          injection hb with e1 e2
          subst e1; subst e2
          have := row_src (off := 0) (m := m) (A := some ⟨b', 0, none⟩) (c' := c') hh hvs hnc (by omega) hl h1 hV (fun _ => by simp)
          simpa using this
      | ownnil hb hn => subst hn; exact none_ _ _ _
    · cases h
  · split at h
    · rename_i y sz'' off m _ t sz' n g fr ho
      simp only [Option.some.injEq, Prod.mk.injEq] at h
      obtain ⟨rfl, rfl, rfl⟩ := h
      obtain ⟨hmn, rfl, rfl⟩ := hvc
      cases hv with
      | sub hb hn hcm hA =>
        rename_i b c A
        rcases hW.obj y _ ho with ⟨h1, h2⟩ | ⟨b', c', vs, hb', hh, hnc, hcm', hvs, hl, h1, hV⟩
        · rw [h1] at hb; cases hb
        · rw [hb'] at hb
          injection hb with hb
          injection hb with e1 e2
          subst e1; subst e2
          exact row_src hh hvs hnc hmn hl h1 hV hA
      | subnil hb hn ho => subst hn; exact none_ _ _ _
    · cases h
  · simp only [Option.some.injEq, Prod.mk.injEq] at h
    obtain ⟨rfl, rfl, rfl⟩ := h
    cases hv; exact none_ _ _ _
  · simp only [Option.some.injEq, Prod.mk.injEq] at h
    obtain ⟨rfl, rfl, rfl⟩ := h
    cases hv; exact none_ _ _ _
  · cases h

end Go.Eng
