/- Lemmas that the tied card of ScannerValid is proved by. -/
import Derived.Test.YtokpcnppihgdlaaGreatDoorGd
/- The engine, part 14: what a call promises; operations one after the other. -/
namespace Go.Eng

def QC (C : Ctx) (E : Ent) (N : Nat) (Q : Exit → St → Prop) : Exit → Act → World → Prop := fun e a w => ∃ s bs, Q e s ∧ RepS C E N s bs a w

/-- Code run from a state. -/
def AWP (C : Ctx) (m N : Nat) (c : Code) (Q : Exit → St → Prop) (s : St) : Prop :=
  ∀ E : Ent, E.m = m → ∀ bs a w, RepS C E N s bs a w → c.wp C.P (QC C E N Q) a w

/-- A list of operations run from a state. -/
def AOps (C : Ctx) (m N : Nat) (ops : Array Oper) (l : List Oper) (Q : Exit → St → Prop) (s : St) : Prop :=
  ∀ E : Ent, E.m = m → ∀ bs a w, RepS C E N s bs a w → wpList C.P ops (QC C E N Q) l a w

def lkL (objs : List AObj) (r : Nat) : Option AObj := objs[r]?

/-- A function with a body of its own. -/
def Enters (P : Program) (f : FuncId) : Prop := ∃ fn, P.funcs[f]? = some fn ∧ fn.body.isNone = false ∧ (fn.name == "runtime.NumGoroutine") = false

/-- What a call promises: for abstract arguments and the objects handed over. New objects have the names behind theirs. -/
def ACalls (C : Ctx) (f : FuncId) (args : List AV) (objs : List AObj) (R : AV → List (Nat × AObj) → Prop) : Prop :=
  Enters C.P f ∧ ∀ (E : Ent) (bs : Nat → Option Hd) (w : World) (cargs : List Value), E.w0 = w → E.m = objs.length → E.bs0 = bs → WRep C E (lkL objs) bs w → (∀ r, objs.length ≤ r → bs r = none) →
    cargs.length = args.length → (∀ (j : Nat) v u, cargs[j]? = some v → args[j]? = some u → V w (MB E (lkL objs) bs) bs v u) →
    Calls C.P f cargs.toArray w fun e w' => ∃ v u O' bs', e = .returned v ∧ R u O' ∧ WRep C E (lk O') bs' w' ∧ V w' (MB E (lk O') bs') bs' v u ∧ ∀ r, objs.length + 16 ≤ r → lk O' r = none ∧ bs' r = none

theorem ACalls.mono {C : Ctx} {f : FuncId} {args : List AV} {objs : List AObj} {R R' : AV → List (Nat × AObj) → Prop} (h : ACalls C f args objs R) (k : ∀ u O, R u O → R' u O) : ACalls C f args objs R' := by
  refine ⟨h.1, fun E bs w cargs h1 h2 h3 h4 h5 h6 h7 => ?_⟩
  refine (h.2 E bs w cargs h1 h2 h3 h4 h5 h6 h7).mono ?_
  rintro e w' ⟨v, u, O', bs', r1, r2, r3⟩
  exact ⟨v, u, O', bs', r1, k _ _ r2, r3⟩

section
variable {C : Ctx} {m N : Nat} {ops : Array Oper} {l rest : List Oper} {Q : Exit → St → Prop} {s : St} {o : Oper}

theorem AOps.nil (h : Q .normal s) : AOps C m N ops [] Q s := fun _ _ bs _ _ hr => ⟨s, bs, h, hr⟩

def rm {α : Type} (d : Nat) : List (Nat × α) → List (Nat × α)
  | [] => []
  | (j, x) :: l => match Nat.beq j d with
    | true => rm d l
    | false => (j, x) :: rm d l

theorem lk_rm {α : Type} (d : Nat) (u : α) (l : List (Nat × α)) : lk ((d, u) :: rm d l) = lk ((d, u) :: l) := by
  funext i
  rw [lk_cons, lk_cons]
  by_cases h : d = i
  · simp [h]
  · simp only [h, if_false]
    induction l with
    | nil => rfl
    | cons p l ih =>
      obtain ⟨j, x⟩ := p
      simp only [rm]
      split
      · rename_i hj
        have := Nat.eq_of_beq_eq_true hj
        subst this
        rw [ih, lk_cons]
        simp [h]
      · rw [lk_cons, lk_cons, ih]

def putT (d : Option Tmp) (u : AV) (T : List (Nat × AV)) : List (Nat × AV) := match d with
  | some d => (d, u) :: rm d T
  | none => T

def dstOK (N : Nat) : Option Tmp → Bool
  | some d => Nat.blt d N
  | none => true

theorem FRep.putT {w : World} {M : Nat → Prop} {bs : Nat → Option Hd} {T : List (Nat × AV)} {a : Act} (h : FRep w M bs N (lk T) a) {d : Option Tmp} (hd : dstOK N d = true) {v : Value} {u : AV} (hv : V w M bs v u) :
    FRep w M bs N (lk (putT d u T)) (a.put d v) := by
  cases d with
  | none => exact h
  | some d =>
    have : d < N := by simpa [dstOK, Nat.blt_eq] using hd
    show FRep w M bs N (lk ((d, u) :: rm d T)) _
    rw [lk_rm]
    exact FRep.put h this hv

theorem AOps.pure {te : TE} (hte : TE.ok C.P te) (hn : ∀ t ti, lk te t = some ti → isAggD ti.desc = false → ti.sz = 1) {u : AV} {vc : Prop} (hg : o.guard = none) (h : evalPure te (lk s.T) (lk s.O) o.op = some (u, vc)) (hd : dstOK N o.dst = true) (hvc : vc)
    (k : AOps C m N ops rest Q { s with T := putT o.dst u s.T }) : AOps C m N ops (o :: rest) Q s := by
  intro E hE bs a w hr
  refine wpList_plain hg fun K hK => ?_
  obtain ⟨v, h1, h2⟩ := evalPure_sound hte hn hr.1.2 hr.1.1 h hvc
  unfold Oper.wp
  rw [h1]
  exact hK _ _ (k E hE bs _ _ ⟨⟨hr.1.1.putT hd h2, hr.1.2⟩, hr.2⟩)

theorem AOps.eff {te : TE} (hte : TE.ok C.P te) {u : AV} {l : List (Nat × AObj)} {vc : Prop} (hg : o.guard = none) (h : evalEff te (lk s.T) (lk s.O) s.nx o.op = some (u, l, vc)) (hd : dstOK N o.dst = true) (hl : ∀ p ∈ l, p.1 ≤ s.nx) (hvc : vc)
    (k : AOps C m N ops rest Q { s with T := putT o.dst u s.T, O := l ++ s.O, nx := s.nx + 1 }) : AOps C m N ops (o :: rest) Q s := by
  intro E hE bs a w hr
  refine wpList_plain hg fun K hK => ?_
  obtain ⟨h0, h0'⟩ := hr.2.1 s.nx (Nat.le_refl _)
  obtain ⟨nx, v, w', bs', h1, h2, h3, h4, h5, h6⟩ := evalEff_sound hte hr.1.2 hr.1.1 h0 h0' h hvc
  have hlu : lk (l ++ s.O) = upL (lk s.O) l := lk_upL l s.O
  have hrep : ∀ v', V w' (MB E (upL (lk s.O) l) bs') bs' v' u → RepS C E N { s with T := putT o.dst u s.T, O := l ++ s.O, nx := s.nx + 1 } bs' (a.put o.dst v') w' := fun v' hv' => by
    refine ⟨⟨?_, ?_⟩, fun r hrr => ?_, Nat.le_succ_of_le hr.2.2⟩
    · show FRep w' (MB E (lk (l ++ s.O)) bs') bs' N (lk (putT o.dst u s.T)) (a.put o.dst v')
      rw [hlu]
      exact (hr.1.1.step h4).putT hd hv'
    · show WRep C E (lk (l ++ s.O)) bs' w'
      rw [hlu]; exact h5
    · show lk (l ++ s.O) r = none ∧ bs' r = none
      have hrr' : s.nx + 1 ≤ r := hrr
      obtain ⟨q1, q2⟩ := hr.2.1 r (by omega)
      refine ⟨?_, by rw [h3 r (by omega)]; exact q2⟩
      rw [hlu]
      have : ∀ l : List (Nat × AObj), (∀ p ∈ l, p.1 ≤ s.nx) → upL (lk s.O) l r = none := by
        intro l
        induction l with
        | nil => exact fun _ => q1
        | cons p l ih =>
          intro hp
          obtain ⟨i, x⟩ := p
          have : i ≤ s.nx := hp (i, x) (by simp)
          simp only [upL]
          rw [up_other _ _ _ (by omega)]
          exact ih fun p hp' => hp p (List.mem_cons_of_mem _ hp')
      exact this l hl
  unfold Oper.wp
  rw [h1]
  rcases h2 with rfl | ⟨rfl, rfl⟩
  · exact hK _ _ (k E hE bs' _ _ (hrep v h6))
  · exact hK _ _ (k E hE bs' _ _ (hrep _ h6))

/-- The slot on which an operation's guard looks. -/
def gslot (ops : List Oper) (o : Oper) : Option (Nat × Bool) := match o.guard with
  | some (j, w) => match ops[j]? with
    | some x => match x.dst with
      | some d => some (d, w)
      | none => none
    | none => none
  | none => none

theorem guard_eval {E : Ent} {bs : Nat → Option Hd} {a : Act} {w : World} {opl : List Oper} (hr : RepS C E N s bs a w) {d : Nat} {want b : Bool} (hg : gslot opl o = some (d, want)) (hT : lk s.T d = some (.bool b)) :
    Region.wanted o (yielded opl.toArray a.tmps) = (b == want) := by
  unfold gslot at hg
  split at hg
  · rename_i j w hj
    split at hg
    · rename_i x hx
      split at hg
      · rename_i d' hd
        simp only [Option.some.injEq, Prod.mk.injEq] at hg
        obtain ⟨rfl, rfl⟩ := hg
        obtain ⟨v, hv, hV⟩ := hr.1.1.2.2 d' _ hT
        cases hV
        simp only [Region.wanted, hj, yielded, List.getElem?_toArray, hx, Option.bind_some, hd]
        simp only [Array.getD_eq_getD_getElem?, hv, Option.getD_some]
        cases b <;> cases w <;> rfl
      · cases hg
    · cases hg
  · cases hg

def unguard (o : Oper) : Oper := { o with guard := none }

theorem AOps.yes {opl : List Oper} {d : Nat} {want : Bool} (hg : gslot opl o = some (d, want)) (hT : lk s.T d = some (.bool want)) (k : AOps C m N opl.toArray (unguard o :: rest) Q s) : AOps C m N opl.toArray (o :: rest) Q s := by
  intro E hE bs a w hr
  have := k E hE bs a w hr
  have hw := guard_eval hr hg hT
  have hw' : Region.wanted (unguard o) (yielded opl.toArray a.tmps) = true := by simp [Region.wanted, unguard]
  unfold wpList at this ⊢
  rw [hw, beq_self_eq_true]
  rw [hw'] at this
  exact this

theorem AOps.no {opl : List Oper} {d : Nat} {want b : Bool} (hg : gslot opl o = some (d, want)) (hT : lk s.T d = some (.bool b)) (hb : (b == want) = false) (hd : dstOK N o.dst = true) (k : AOps C m N opl.toArray rest Q { s with T := putT o.dst .any s.T }) :
    AOps C m N opl.toArray (o :: rest) Q s := by
  intro E hE bs a w hr
  have hw := guard_eval hr hg hT
  unfold wpList
  rw [hw, hb]
  exact k E hE bs _ _ ⟨⟨hr.1.1.putT hd .any, hr.1.2⟩, hr.2⟩

/-- A slot's boolean is looked at: two ways. -/
theorem AOps.split {b : Bool} (d : Nat) (hd : Nat.blt d N = true) (hT : lk s.T d = some (.bool b)) (h1 : b = true → AOps C m N ops l Q { s with T := (d, .bool true) :: rm d s.T, dec := d :: s.dec }) (h2 : b = false → AOps C m N ops l Q { s with T := (d, .bool false) :: rm d s.T, dec := d :: s.dec }) :
    AOps C m N ops l Q s := by
  have key : ∀ b', b = b' → AOps C m N ops l Q { s with T := (d, .bool b') :: rm d s.T, dec := d :: s.dec } → AOps C m N ops l Q s := by
    rintro b' rfl h E hE bs a w hr
    refine h E hE bs a w ⟨⟨⟨hr.1.1.1, hr.1.1.2.1, fun i u hu => ?_⟩, hr.1.2⟩, hr.2⟩
    have hu' : lk ((d, .bool b) :: rm d s.T) i = some u := hu
    rw [lk_rm, lk_cons] at hu'
    split at hu'
    · rename_i e
      simp only [Option.some.injEq] at hu'
      subst hu'
      have e' : d = i := e
      subst e'
      exact hr.1.1.2.2 d _ hT
    · exact hr.1.1.2.2 i u hu'
  cases hb : b with
  | true => exact key true hb (h1 hb)
  | false => exact key false hb (h2 hb)
end

/-- Operations run until a call, an undecided guard, or the end. -/
def hasN : List Nat → Nat → Bool
  | [], _ => false
  | d :: l, i => match Nat.beq d i with
    | true => true
    | false => hasN l i

structure RR where
  T : List (Nat × AV)
  O : List (Nat × AObj)
  nx : Nat
  vc : Prop
  rest : List Oper

def runOps (te : TE) (N : Nat) (opl : List Oper) (dec : List Nat) : List Oper → List (Nat × AV) → List (Nat × AObj) → Nat → Prop → RR
  | [], T, O, nx, vc => ⟨T, O, nx, vc, []⟩
  | o :: rest, T, O, nx, vc =>
    let go (_ : Unit) : RR := match dstOK N o.dst with
      | true => match evalPure te (lk T) (lk O) o.op with
        | some (u, v) => runOps te N opl dec rest (putT o.dst u T) O nx (vc ∧ v)
        | none => match evalEff te (lk T) (lk O) nx o.op with
          | some (u, [p], v) => match Nat.ble p.1 nx with
            | true => runOps te N opl dec rest (putT o.dst u T) (p :: O) (nx + 1) (vc ∧ v)
            | false => ⟨T, O, nx, vc, o :: rest⟩
          | some (u, [p, q], v) => match Nat.ble p.1 nx && Nat.ble q.1 nx with
            | true => runOps te N opl dec rest (putT o.dst u T) (p :: q :: O) (nx + 1) (vc ∧ v)
            | false => ⟨T, O, nx, vc, o :: rest⟩
          | _ => ⟨T, O, nx, vc, o :: rest⟩
      | false => ⟨T, O, nx, vc, o :: rest⟩
    match o.guard with
    | none => go ()
    | some _ => match gslot opl o with
      | some (d, want) => match hasN dec d with
        | true => match lk T d with
          | some (.bool b) => match b, want with
            | true, true => go ()
            | false, false => go ()
            | _, _ => match dstOK N o.dst with
              | true => runOps te N opl dec rest (putT o.dst .any T) O nx vc
              | false => ⟨T, O, nx, vc, o :: rest⟩
          | _ => ⟨T, O, nx, vc, o :: rest⟩
        | false => ⟨T, O, nx, vc, o :: rest⟩
      | none => ⟨T, O, nx, vc, o :: rest⟩

theorem runOps_sound {C : Ctx} {m N : Nat} {te : TE} (hte : TE.ok C.P te) (hn : ∀ t ti, lk te t = some ti → isAggD ti.desc = false → ti.sz = 1) {opl : List Oper} {Q : Exit → St → Prop} {dec : List Nat} :
    ∀ (l : List Oper) (T : List (Nat × AV)) (O : List (Nat × AObj)) (nx : Nat) (vc : Prop) (r : RR), runOps te N opl dec l T O nx vc = r → r.vc → vc ∧ (AOps C m N opl.toArray r.rest Q ⟨r.T, r.O, r.nx, dec⟩ → AOps C m N opl.toArray l Q ⟨T, O, nx, dec⟩)
  | [], T, O, nx, vc, r, h, hv => by subst h; exact ⟨hv, id⟩
  | o :: rest, T, O, nx, vc, r, h, hv => by
    -- one operation whose guard, if any, says yes
    have stop : (⟨T, O, nx, vc, o :: rest⟩ : RR) = r → vc ∧ (AOps C m N opl.toArray r.rest Q ⟨r.T, r.O, r.nx, dec⟩ → AOps C m N opl.toArray (o :: rest) Q ⟨T, O, nx, dec⟩) := by
      rintro rfl; exact ⟨hv, id⟩
    have go : (match dstOK N o.dst with
      | true => match evalPure te (lk T) (lk O) o.op with
        | some (u, v) => runOps te N opl dec rest (putT o.dst u T) O nx (vc ∧ v)
        | none => match evalEff te (lk T) (lk O) nx o.op with
          | some (u, [p], v) => match Nat.ble p.1 nx with
            | true => runOps te N opl dec rest (putT o.dst u T) (p :: O) (nx + 1) (vc ∧ v)
            | false => ⟨T, O, nx, vc, o :: rest⟩
          | some (u, [p, q], v) => match Nat.ble p.1 nx && Nat.ble q.1 nx with
            | true => runOps te N opl dec rest (putT o.dst u T) (p :: q :: O) (nx + 1) (vc ∧ v)
            | false => ⟨T, O, nx, vc, o :: rest⟩
          | _ => ⟨T, O, nx, vc, o :: rest⟩
      | false => ⟨T, O, nx, vc, o :: rest⟩) = r → (AOps C m N opl.toArray (unguard o :: rest) Q ⟨T, O, nx, dec⟩ → AOps C m N opl.toArray (o :: rest) Q ⟨T, O, nx, dec⟩) →
        vc ∧ (AOps C m N opl.toArray r.rest Q ⟨r.T, r.O, r.nx, dec⟩ → AOps C m N opl.toArray (o :: rest) Q ⟨T, O, nx, dec⟩) := by
      intro h hg
      split at h
      · rename_i hd
        split at h
        · rename_i u v hu
          obtain ⟨⟨h1, h2⟩, k⟩ := runOps_sound hte hn rest _ _ _ _ r h hv
          exact ⟨h1, fun hk => hg (AOps.pure (s := ⟨T, O, nx, dec⟩) hte hn (o := unguard o) rfl hu hd h2 (k hk))⟩
        · split at h
          · rename_i u p v hu
            split at h
            · rename_i hp
              obtain ⟨⟨h1, h2⟩, k⟩ := runOps_sound hte hn rest _ _ _ _ r h hv
              have hp' : p.1 ≤ nx := Nat.le_of_ble_eq_true hp
              exact ⟨h1, fun hk => hg (AOps.eff (s := ⟨T, O, nx, dec⟩) hte (o := unguard o) rfl hu hd (fun q hq => by simp at hq; subst hq; exact hp') h2 (k hk))⟩
            · exact stop h
          · rename_i u p q v hu
            split at h
            · rename_i hp
              simp only [Bool.and_eq_true] at hp
              obtain ⟨⟨h1, h2⟩, k⟩ := runOps_sound hte hn rest _ _ _ _ r h hv
              have hp' : p.1 ≤ nx := Nat.le_of_ble_eq_true hp.1
              have hq' : q.1 ≤ nx := Nat.le_of_ble_eq_true hp.2
              exact ⟨h1, fun hk => hg (AOps.eff (s := ⟨T, O, nx, dec⟩) hte (o := unguard o) rfl hu hd (fun x hx => by
                simp at hx
                rcases hx with rfl | rfl
                · exact hp'
                · exact hq') h2 (k hk))⟩
            · exact stop h
          · exact stop h
      · exact stop h
    simp only [runOps] at h
    split at h
    · rename_i hgn
      refine go h fun hs => ?_
      have : unguard o = o := by
        obtain ⟨_, _, _, _, _, g⟩ := o
        simp only at hgn
        subst hgn
        rfl
      rwa [this] at hs
    · split at h
      · rename_i d want hgs
        split at h
        · split at h
          · rename_i b hT
            split at h
            · exact go h fun hs => AOps.yes hgs hT hs
            · exact go h fun hs => AOps.yes hgs hT hs
            · rename_i hne1 hne2
              split at h
              · rename_i hd
                obtain ⟨h1, k⟩ := runOps_sound hte hn rest _ _ _ _ r h hv
                refine ⟨h1, fun hk => AOps.no hgs hT ?_ hd (k hk)⟩
                cases b <;> cases want
                · exact (hne2 rfl rfl).elim
                · rfl
                · rfl
                · exact (hne1 rfl rfl).elim
              · exact stop h
          · exact stop h
        · exact stop h
      · exact stop h

theorem AOps.run {C : Ctx} {m N : Nat} {te : TE} (hte : TE.ok C.P te) (hn : ∀ t ti, lk te t = some ti → isAggD ti.desc = false → ti.sz = 1) {opl l rest : List Oper} {Q : Exit → St → Prop} {T T' : List (Nat × AV)} {O O' : List (Nat × AObj)} {nx nx' : Nat} {dec : List Nat} {vc : Prop}
    (h : runOps te N opl dec l T O nx True = ⟨T', O', nx', vc, rest⟩) (hvc : vc) (k : AOps C m N opl.toArray rest Q ⟨T', O', nx', dec⟩) : AOps C m N opl.toArray l Q ⟨T, O, nx, dec⟩ :=
  (runOps_sound hte hn l T O nx True _ h hvc).2 k

end Go.Eng
/- The engine, part 15: a call among the operations. -/
namespace Go.Eng

theorem run_callFunc {P : Program} {f : FuncId} (h : Enters P f) (args : Array Value) (w : World) : (callFunc f args).run P w = .ok (.enter f args) w := by
  obtain ⟨fn, h1, h2, h3⟩ := h
  simp only [callFunc, Sem.run_bind, run_program, Result.andThen_ok, h1, h2, h3]
  rfl

def idxN : List Nat → Nat → Option Nat
  | [], _ => none
  | d :: l, i => match Nat.beq d i with
    | true => some 0
    | false => match idxN l i with
      | some k => some (k + 1)
      | none => none

theorem idxN_spec : ∀ (l : List Nat) (i k : Nat), idxN l i = some k → l[k]? = some i
  | [], i, k, h => by cases h
  | d :: l, i, k, h => by
    simp only [idxN] at h
    split at h
    · rename_i hd
      simp only [Option.some.injEq] at h
      subst h
      simp [Nat.eq_of_beq_eq_true hd]
    · split at h
      · rename_i k' hk
        simp only [Option.some.injEq] at h
        subst h
        simpa using idxN_spec l i k' hk
      · cases h

/-- The names of the callee's objects, at the caller. -/
def sig (pass : List Nat) (nx : Nat) (j : Nat) : Option Nat := match pass[j]? with
  | some r => some r
  | none => some (nx + (j - pass.length))

/-- The objects handed over, under the callee's names. -/
def OPass (ρ : Nat → Option Nat) (O : List (Nat × AObj)) : List Nat → List AObj → Prop
  | [], [] => True
  | r :: l, o' :: l' => (∃ o, lk O r = some o ∧ o.mut = true ∧ OLe ρ o o') ∧ OPass ρ O l l'
  | _, _ => False

theorem OPass.len {ρ : Nat → Option Nat} {O : List (Nat × AObj)} : ∀ {l : List Nat} {l' : List AObj}, OPass ρ O l l' → l.length = l'.length
  | [], [], _ => rfl
  | _ :: l, _ :: l', h => by simp [OPass.len h.2]
  | [], _ :: _, h => h.elim
  | _ :: _, [], h => h.elim
theorem OPass.get {ρ : Nat → Option Nat} {O : List (Nat × AObj)} : ∀ {l : List Nat} {l' : List AObj}, OPass ρ O l l' → ∀ (j r : Nat) (o' : AObj), l[j]? = some r → l'[j]? = some o' → ∃ o, lk O r = some o ∧ o.mut = true ∧ OLe ρ o o'
  | [], [], _, j, r, o', h, _ => by simp at h
  | x :: l, y :: l', h, 0, r, o', h1, h2 => by simp at h1 h2; subst h1; subst h2; exact h.1
  | x :: l, y :: l', h, j + 1, r, o', h1, h2 => OPass.get h.2 j r o' (by simpa using h1) (by simpa using h2)
  | [], _ :: _, h, _, _, _, _, _ => h.elim
  | _ :: _, [], h, _, _, _, _, _ => h.elim

/-- The objects that come back, under the caller's names. -/
def OBack (σ : Nat → Option Nat) (O' : List (Nat × AObj)) : List (Nat × AObj) → Prop
  | [] => True
  | (r, o2) :: l => (∃ j o', σ j = some r ∧ lk O' j = some o' ∧ OLe σ o' o2) ∧ OBack σ O' l

theorem OBack.get {σ : Nat → Option Nat} {O' : List (Nat × AObj)} : ∀ {l : List (Nat × AObj)}, OBack σ O' l → ∀ r o2, lk l r = some o2 → ∃ j o', σ j = some r ∧ lk O' j = some o' ∧ OLe σ o' o2
  | [], _, r, o2, h => by simp [lk] at h
  | (x, y) :: l, hb, r, o2, h => by
    rw [lk_cons] at h
    split at h
    · rename_i e
      have e' : x = r := e
      subst e'
      simp only [Option.some.injEq] at h
      subst h
      exact hb.1
    · exact OBack.get hb.2 r o2 h

def deads (pass : List Nat) : List (Nat × AObj) := pass.map fun r => (r, .dead)

theorem lk_append {α : Type} (l l' : List (Nat × α)) (r : Nat) : lk (l ++ l') r = (lk l r).or (lk l' r) := by
  induction l with
  | nil => simp [lk]
  | cons p l ih => simp only [List.cons_append, lk_cons, ih]; split <;> simp

theorem lk_deads (pass : List Nat) (r : Nat) : lk (deads pass) r = if r ∈ pass then some .dead else none := by
  induction pass with
  | nil => simp [deads, lk]
  | cons x l ih =>
    have : deads (x :: l) = (x, .dead) :: deads l := rfl
    rw [this, lk_cons, ih]
    by_cases h : x = r
    · subst h; simp
    · simp [h, Ne.symm h]

section
variable {C : Ctx} {m N : Nat} {ops : Array Oper} {rest : List Oper} {Q : Exit → St → Prop} {s : St} {o : Oper}

theorem AOps.call {fo : Operand} {args : Array Operand} {at_ : Array TypeId} {f : FuncId} {cap as : List AV} {cobjs : List AObj} {R : AV → List (Nat × AObj) → Prop} (pass : List Nat)
    (hop : o.op = .call { callee := .value fo, args := args, argTypes := at_ }) (hg : o.guard = none) (hd : dstOK N o.dst = true) (hf : evO (lk s.T) fo = some (.func f cap)) (ha : evL (lk s.T) args.toList = some as)
    (hnd : pass.Nodup) (hO : OPass (idxN pass) s.O pass cobjs) (hc : ACalls C f (AV.rnL (idxN pass) (as ++ cap)) cobjs R)
    (k : ∀ u O', R u O' → ∃ u2 O2, u.rn (sig pass s.nx) = u2 ∧ OBack (sig pass s.nx) O' O2 ∧ AOps C m N ops rest Q { s with T := putT o.dst u2 s.T, O := O2 ++ (deads pass ++ s.O), nx := s.nx + 16 }) :
    AOps C m N ops (o :: rest) Q s := by
  intro E1 hE1 bs a w hr
  obtain ⟨⟨hF, hW⟩, hfr, hmn⟩ := hr
  refine wpList_plain hg fun K hK => ?_
  have hlen := hO.len
  have hpl : ∀ (j r : Nat), pass[j]? = some r → r < s.nx ∧ ∃ o, lk s.O r = some o ∧ o.mut = true := by
    intro j r hj
    have hj' : j < cobjs.length := by rw [← hlen]; exact (List.getElem?_eq_some_iff.1 hj).1
    obtain ⟨ob, h1, h2, _⟩ := hO.get j r _ hj (List.getElem?_eq_getElem hj')
    refine ⟨?_, ob, h1, h2⟩
    rcases Nat.lt_or_ge r s.nx with h | h
    · exact h
    · rw [(hfr r h).1] at h1; cases h1
  have hbsome : ∀ r ob, lk s.O r = some ob → ob.mut = true → ∃ h, bs r = some h := by
    intro r ob h1 h2
    have := hW.obj r ob h1
    cases ob with
    | cells cs t => obtain ⟨b, c, _, h, _⟩ := this; exact ⟨_, h⟩
    | row t sz n f fr => rcases this with ⟨h, _⟩ | ⟨b, c, _, h, _⟩ <;> exact ⟨_, h⟩
    | amap es => obtain ⟨b, c, _, _, h, _⟩ := this; exact ⟨_, h⟩
    | siter l p => obtain ⟨b, c, _, h, _⟩ := this; exact ⟨_, h⟩
    | miter m n l => obtain ⟨b, c, _, _, _, h, _⟩ := this; exact ⟨_, h⟩
    | dead => simp [AObj.mut] at h2
  -- the callee's side
  let bs0 : Nat → Option Hd := fun j => (pass[j]?).bind bs
  let M1 := MB E1 (lk s.O) bs
  let E : Ent := { w0 := w, m := cobjs.length, bs0 := bs0, mut0 := mutB (lkL cobjs) bs0, outer := fun b => M1 b ∧ ¬ mutB (lkL cobjs) bs0 b }
  have hmo : ∀ (j r : Nat) (o' : AObj), pass[j]? = some r → cobjs[j]? = some o' → o'.mut = true := fun j r o' h1 h2 => by
    obtain ⟨ob, h3, h4, h5⟩ := hO.get j r o' h1 h2
    rw [← h5.mut]; exact h4
  have m0 : ∀ b, mutB (lkL cobjs) bs0 b → ∃ (j r : Nat) (ob : AObj) (c : Nat), pass[j]? = some r ∧ lk s.O r = some ob ∧ ob.mut = true ∧ bs r = some (.blk b c) := by
    rintro b ⟨j, o', c, h1, h2, h3⟩
    have hj : j < pass.length := by rw [hlen]; exact (List.getElem?_eq_some_iff.1 h1).1
    have hp := List.getElem?_eq_getElem hj
    obtain ⟨ob, h4, h5, _⟩ := hO.get j _ o' hp h1
    refine ⟨j, _, ob, c, hp, h4, h5, ?_⟩
    simpa [bs0, hp] using h3
  have m0' : ∀ b, mutB (lkL cobjs) bs0 b → mutB (lk s.O) bs b := fun b h => by
    obtain ⟨j, r, ob, c, h1, h2, h3, h4⟩ := m0 b h
    exact ⟨r, ob, c, h2, h3, h4⟩
  have hM0 : ∀ b, MB E (lkL cobjs) bs0 b ↔ M1 b := fun b => by
    constructor
    · rintro (h | h)
      · exact h.1
      · exact .inr (m0' b h)
    · intro h
      by_cases hm : mutB (lkL cobjs) bs0 b
      · exact .inr hm
      · exact .inl ⟨h, hm⟩
  have hρ : ∀ r k x, idxN pass r = some k → bs r = some x → bs0 k = some x := fun r k x hr hx => by
    show (pass[k]?).bind bs = some x
    rw [idxN_spec pass r k hr]; exact hx
  have ρat : ∀ (j r : Nat), pass[j]? = some r → idxN pass r = some j := by
    intro j r hj
    have hex : ∀ (l : List Nat) (j : Nat), l[j]? = some r → ∃ k, idxN l r = some k := by
      intro l
      induction l with
      | nil => intro j h; simp at h
      | cons d l ih =>
        intro j h
        simp only [idxN]
        split
        · exact ⟨_, rfl⟩
        · rename_i hne
          cases j with
          | zero => simp at h; subst h; simp [Nat.beq_refl] at hne
          | succ j =>
            obtain ⟨k, hk⟩ := ih j (by simpa using h)
            rw [hk]; exact ⟨_, rfl⟩
    obtain ⟨k, hk⟩ := hex pass j hj
    have hk' := idxN_spec pass r k hk
    have : k = j := by
      exact (List.getElem?_inj (List.getElem?_eq_some_iff.1 hk').1 hnd).1 (hk'.trans hj.symm)
    rw [hk, this]
  have vin : ∀ {v : Value} {u : AV}, V w M1 bs v u → V w (MB E (lkL cobjs) bs0) bs0 v (u.rn (idxN pass)) := fun h =>
    (h.rn (idxN pass) bs0 hρ).step_ (fun b _ hb hb' => hb ((hM0 b).1 hb')) (fun _ _ _ => rfl) (Nat.le_refl _) _ fun _ _ hh => hh
  have hW0 : WRep C E (lkL cobjs) bs0 w := {
    obj := fun j o' ho => by
      have hj : j < pass.length := by rw [hlen]; exact (List.getElem?_eq_some_iff.1 ho).1
      have hp := List.getElem?_eq_getElem hj
      obtain ⟨ob, h4, h5, h6⟩ := hO.get j _ o' hp ho
      exact (h6.ok hρ (ρat j _ hp) (hW.obj _ _ h4)).step ⟨fun _ _ h => h, fun b _ hb hb' => hb ((hM0 b).1 hb'), fun _ _ _ => rfl, Nat.le_refl _⟩ fun _ _ _ => rfl
    sep := fun j j' o1 o2 b c c' h1 h2 n1 n2 b1 b2 => by
      have hj : j < pass.length := by rw [hlen]; exact (List.getElem?_eq_some_iff.1 h1).1
      have hj' : j' < pass.length := by rw [hlen]; exact (List.getElem?_eq_some_iff.1 h2).1
      have hp := List.getElem?_eq_getElem hj
      have hp' := List.getElem?_eq_getElem hj'
      obtain ⟨q1, h4, h5, _⟩ := hO.get j _ o1 hp h1
      obtain ⟨q2, h4', h5', _⟩ := hO.get j' _ o2 hp' h2
      have := hW.sep _ _ q1 q2 b c c' h4 h4' h5 h5' (by simpa [bs0, hp] using b1) (by simpa [bs0, hp'] using b2)
      exact (List.getElem?_inj hj hnd).1 (by rw [hp, hp', this])
    out := fun b hb ho => ho.2 hb
    frz := fun j t sz n f b c ho hb => by
      have hj : j < pass.length := by rw [hlen]; exact (List.getElem?_eq_some_iff.1 ho).1
      have := hmo j _ _ (List.getElem?_eq_getElem hj) ho
      simp [AObj.mut] at this
    high := fun b hb => hW.high b ((hM0 b).1 hb)
    lt := fun j b c hb => by
      show b < w.heap.size
      cases hp : pass[j]? with
      | none => simp [bs0, hp] at hb
      | some r => exact hW.lt r b c (by simpa [bs0, hp] using hb)
    outlt := fun b hb => by
      show b < w.heap.size
      rcases hb.1 with h | ⟨r, ob, c, _, _, h⟩
      · exact Nat.lt_of_lt_of_le (hW.outlt b h) hW.size
      · exact hW.lt r b c h
    keep := fun b _ _ => rfl
    old := fun b hb => .inl hb
    size := Nat.le_refl _
    pre := fun r h _ hb => hb
    os := rfl
    tape := .refl _ _
    output := rfl
    laid := hW.laid
    gle := Nat.le_trans hW.gle hW.size }
  have hsf := evO_sound hF hf
  obtain ⟨hal, hav⟩ := evL_sound hF _ _ ha
  generalize hfe : a.eval fo = vf at hsf
  cases hsf with
  | func hcl hcv =>
    rename_i caps
    have hcall := hc.2 E bs0 w ((args.toList.map a.eval) ++ caps.toList) rfl rfl rfl hW0 (fun r hr => by
        show (pass[r]?).bind bs = none
        rw [List.getElem?_eq_none (by omega)]; rfl)
      (by rw [rnL_len, List.length_append, List.length_append, hal]; show _ + caps.size = _; rw [hcl])
      (fun j v u hv hu => by
        rw [rnL_get] at hu
        obtain ⟨u', hu', rfl⟩ := Option.map_eq_some_iff.1 hu
        refine vin ?_
        rcases Nat.lt_or_ge j as.length with hj | hj
        · rw [List.getElem?_append_left (by rw [hal]; exact hj)] at hv
          rw [List.getElem?_append_left hj] at hu'
          exact hav j v u' hv hu'
        · rw [List.getElem?_append_right (by rw [hal]; exact hj), hal] at hv
          rw [List.getElem?_append_right hj] at hu'
          exact hcv _ v u' (by simpa using hv) hu')
    have hrun : (execOp a.eval o).run C.P w = .ok (.enter f ((args.toList.map a.eval) ++ caps.toList).toArray) w := by
      have e : ((args.toList.map a.eval) ++ caps.toList).toArray = args.map a.eval ++ caps := by
        apply Array.toList_inj.1; simp
      rw [e]
      simp only [execOp, hop, resolve, hfe, Deferred.ofValue, Sem.run_bind, Sem.run_pure, Result.andThen_ok, invoke, Array.empty_append]
      exact run_callFunc hc.1 _ w
    unfold Oper.wp
    rw [hrun, Oper.upon_enter]
    refine hcall.mono ?_
    rintro e w' ⟨v, u, O', bs', rfl, hR, hW', hV', hfr'⟩
    obtain ⟨u2, O2, rfl, hOB, kk⟩ := k u O' hR
    -- the caller's side, behind the call
    let bs2 : Nat → Option Hd := fun r => if r < s.nx then bs r else bs' (r - s.nx + pass.length)
    let O3 := O2 ++ (deads pass ++ s.O)
    have hold : ∀ (j r : Nat), pass[j]? = some r → bs' j = bs r := by
      intro j r hj
      obtain ⟨_, ob, h1, h2⟩ := hpl j r hj
      obtain ⟨h, hh⟩ := hbsome r ob h1 h2
      rw [hh]
      refine hW'.pre j h ?_ ?_
      · show j < cobjs.length
        rw [← hlen]; exact (List.getElem?_eq_some_iff.1 hj).1
      · show (pass[j]?).bind bs = some h
        rw [hj]; exact hh
    have sigb : ∀ (j r : Nat), sig pass s.nx j = some r → bs2 r = bs' j := by
      intro j r hj
      unfold sig at hj
      split at hj
      · rename_i r' hp
        simp only [Option.some.injEq] at hj
        subst hj
        show (if r' < s.nx then bs r' else _) = bs' j
        rw [if_pos (hpl j r' hp).1, hold j r' hp]
      · rename_i hp
        simp only [Option.some.injEq] at hj
        subst hj
        have : pass.length ≤ j := List.getElem?_eq_none_iff.1 hp
        show (if s.nx + (j - pass.length) < s.nx then _ else bs' (s.nx + (j - pass.length) - s.nx + pass.length)) = bs' j
        rw [if_neg (by omega)]
        congr 1; omega
    have hσ : ∀ j r x, sig pass s.nx j = some r → bs' j = some x → bs2 r = some x := fun j r x hj hx => by rw [sigb j r hj]; exact hx
    -- where an object of the new table comes from
    have cases3 : ∀ r o2, lk O3 r = some o2 → (∃ j o', sig pass s.nx j = some r ∧ lk O' j = some o' ∧ OLe (sig pass s.nx) o' o2) ∨ o2 = .dead ∨ (r ∉ pass ∧ lk s.O r = some o2) := by
      intro r o2 h
      rw [lk_append, lk_append, lk_deads] at h
      cases hx : lk O2 r with
      | some y =>
        rw [hx] at h
        simp only [Option.some_or, Option.some.injEq] at h
        subst h
        exact .inl (hOB.get r y hx)
      | none =>
        rw [hx] at h
        simp only [Option.none_or] at h
        split at h
        · simp only [Option.some_or, Option.some.injEq] at h
          exact .inr (.inl h.symm)
        · rename_i hnp
          exact .inr (.inr ⟨hnp, by simpa using h⟩)
    have oldnx : ∀ r ob, lk s.O r = some ob → r < s.nx := by
      intro r ob h
      rcases Nat.lt_or_ge r s.nx with hlt | hge
      · exact hlt
      · rw [(hfr r hge).1] at h; cases h
    have oldmut : ∀ r ob b c, r ∉ pass → lk s.O r = some ob → ob.mut = true → bs r = some (.blk b c) → ¬ mutB (lkL cobjs) bs0 b := by
      intro r ob b c hnp h1 h2 h3 hm
      obtain ⟨j, r', ob', c', p1, p2, p3, p4⟩ := m0 b hm
      have := hW.sep r r' ob ob' b c c' h1 p2 h2 p3 h3 p4
      subst this
      exact hnp (List.mem_of_getElem? p1)
    have mut3 : ∀ b, mutB (lk O3) bs2 b → mutB (lk O') bs' b ∨ (mutB (lk s.O) bs b ∧ ¬ mutB (lkL cobjs) bs0 b) := by
      rintro b ⟨r, o2, c, h1, h2, h3⟩
      rcases cases3 r o2 h1 with ⟨j, o', q1, q2, q3⟩ | rfl | ⟨q1, q2⟩
      · exact .inl ⟨j, o', c, q2, by rw [q3.mut]; exact h2, by rw [← sigb j r q1]; exact h3⟩
      · simp [AObj.mut] at h2
      · have hlt := oldnx r o2 q2
        have h3' : bs r = some (.blk b c) := by
          have : bs2 r = bs r := if_pos hlt
          rw [← this]; exact h3
        exact .inr ⟨⟨r, o2, c, q2, h2, h3'⟩, oldmut r o2 b c q1 q2 h2 h3'⟩
    have hM2 : ∀ b, MB E1 (lk O3) bs2 b → MB E (lk O') bs' b := by
      rintro b (h | h)
      · exact .inl ⟨.inl h, fun hm => hW.out b (m0' b hm) h⟩
      · rcases mut3 b h with h | ⟨h, hn⟩
        · exact .inr h
        · exact .inl ⟨.inr h, hn⟩
    have hM3 : ∀ b, b < w.heap.size → MB E (lk O') bs' b → M1 b := by
      rintro b hb (h | h)
      · exact h.1
      · rcases hW'.old b h with h | h
        · exact .inr (m0' b h)
        · have : w.heap.size ≤ b := h
          omega
    have heap_ : ∀ b, b < w.heap.size → ¬ mutB (lkL cobjs) bs0 b → w'.heap[b]? = w.heap[b]? := fun b hb hn => hW'.keep b hb hn
    have bs_ : ∀ r h, bs r = some h → bs2 r = some h := by
      intro r h hh
      have hlt : r < s.nx := by
        rcases Nat.lt_or_ge r s.nx with hlt | hge
        · exact hlt
        · rw [(hfr r hge).2] at hh; cases hh
      have : bs2 r = bs r := if_pos hlt
      rw [this]; exact hh
    have hS : Step w M1 bs w' (MB E1 (lk O3) bs2) bs2 :=
      ⟨bs_, fun b hb hn h => hn (hM3 b hb (hM2 b h)), fun b hb hn => heap_ b hb fun hm => hn (.inr (m0' b hm)), hW'.size⟩
    have hSV : ∀ {v : Value} {u : AV}, V w' (MB E (lk O') bs') bs' v u → V w' (MB E1 (lk O3) bs2) bs2 v (u.rn (sig pass s.nx)) := fun h =>
      (h.rn (sig pass s.nx) bs2 hσ).step_ (fun b _ hb hb' => hb (hM2 b hb')) (fun _ _ _ => rfl) (Nat.le_refl _) _ fun _ _ hh => hh
    have hW2 : WRep C E1 (lk O3) bs2 w' := {
      obj := fun r o2 ho => by
        rcases cases3 r o2 ho with ⟨j, o', q1, q2, q3⟩ | rfl | ⟨q1, q2⟩
        · exact (q3.ok hσ q1 (hW'.obj j o' q2)).step ⟨fun _ _ h => h, fun b _ hb hb' => hb (hM2 b hb'), fun _ _ _ => rfl, Nat.le_refl _⟩ fun _ _ _ => rfl
        · trivial
        · by_cases hdd : o2 = .dead
          · subst hdd; trivial
          refine (hW.obj r o2 q2).step hS fun b c hb => heap_ b (hW.lt r b c hb) ?_
          cases hmm : o2.mut with
          | true => exact oldmut r o2 b c q1 q2 hmm hb
          | false =>
            intro hm
            cases o2 with
            | row t sz n f fr =>
              have : fr = true := by simpa [AObj.mut] using hmm
              subst this
              exact hW.frz r t sz n f b c q2 hb (.inr (m0' b hm))
            | dead => exact hdd rfl
            | _ => simp [AObj.mut] at hmm
      sep := fun r r' o1 o2 b c c' h1 h2 n1 n2 b1 b2 => by
        have mem : ∀ r o2 b c, lk O3 r = some o2 → o2.mut = true → bs2 r = some (.blk b c) → (∃ j o', sig pass s.nx j = some r ∧ lk O' j = some o' ∧ o'.mut = true ∧ bs' j = some (.blk b c)) ∨ (r ∉ pass ∧ lk s.O r = some o2 ∧ bs r = some (.blk b c)) := by
          intro r o2 b c h1 h2 h3
          rcases cases3 r o2 h1 with ⟨j, o', q1, q2, q3⟩ | rfl | ⟨q1, q2⟩
          · exact .inl ⟨j, o', q1, q2, by rw [q3.mut]; exact h2, by rw [← sigb j r q1]; exact h3⟩
          · simp [AObj.mut] at h2
          · have : bs2 r = bs r := if_pos (oldnx r o2 q2)
            exact .inr ⟨q1, q2, by rw [← this]; exact h3⟩
        have clash : ∀ j o' r ob b c c', lk O' j = some o' → o'.mut = true → bs' j = some (.blk b c) → r ∉ pass → lk s.O r = some ob → ob.mut = true → bs r = some (.blk b c') → False := by
          intro j o' r ob b c c' h1 h2 h3 h4 h5 h6 h7
          rcases hW'.old b ⟨j, o', c, h1, h2, h3⟩ with h | h
          · exact oldmut r ob b c' h4 h5 h6 h7 h
          · have hlt := hW.lt r b c' h7
            have : w.heap.size ≤ b := h
            omega
        rcases mem r o1 b c h1 n1 b1 with ⟨j, o', q1, q2, q3, q4⟩ | ⟨q1, q2, q3⟩
        · rcases mem r' o2 b c' h2 n2 b2 with ⟨j', o'', p1, p2, p3, p4⟩ | ⟨p1, p2, p3⟩
          · have := hW'.sep j j' o' o'' b c c' q2 p2 q3 p3 q4 p4
            subst this
            rw [q1] at p1
            injection p1
          · exact (clash j o' r' o2 b c c' q2 q3 q4 p1 p2 n2 p3).elim
        · rcases mem r' o2 b c' h2 n2 b2 with ⟨j', o'', p1, p2, p3, p4⟩ | ⟨p1, p2, p3⟩
          · exact (clash j' o'' r o1 b c' c p2 p3 p4 q1 q2 n1 q3).elim
          · exact hW.sep r r' o1 o2 b c c' q2 p2 n1 n2 q3 p3
      out := fun b hb ho => by
        rcases mut3 b hb with h | ⟨h, _⟩
        · exact hW'.out b h ⟨.inl ho, fun hm => hW.out b (m0' b hm) ho⟩
        · exact hW.out b h ho
      frz := fun r t sz n f b c ho hb hM => by
        rcases cases3 r _ ho with ⟨j, o', q1, q2, q3⟩ | h | ⟨q1, q2⟩
        · cases o' <;> simp only [OLe] at q3
          obtain ⟨rfl, rfl, rfl, rfl, _⟩ := q3
          exact hW'.frz j _ _ _ _ b c q2 (by rw [← sigb j r q1]; exact hb) (hM2 b hM)
        · cases h
        · have e : bs2 r = bs r := if_pos (oldnx r _ q2)
          have hb' : bs r = some (.blk b c) := by rw [← e]; exact hb
          exact hW.frz r t sz n f b c q2 hb' (hM3 b (hW.lt r b c hb') (hM2 b hM))
      high := fun b hb => hW'.high b (hM2 b hb)
      lt := fun r b c hb => by
        by_cases hlt : r < s.nx
        · have e : bs2 r = bs r := if_pos hlt
          exact Nat.lt_of_lt_of_le (hW.lt r b c (by rw [← e]; exact hb)) hW'.size
        · have e : bs2 r = bs' (r - s.nx + pass.length) := if_neg hlt
          exact hW'.lt _ b c (by rw [← e]; exact hb)
      outlt := hW.outlt
      keep := fun b hb hm => by
        have hlt : b < w.heap.size := Nat.lt_of_lt_of_le hb hW.size
        rw [heap_ b hlt (fun h => ?_)]
        · exact hW.keep b hb hm
        · rcases hW.old b (m0' b h) with h | h
          · exact hm h
          · omega
      old := fun b hb => by
        rcases mut3 b hb with h | ⟨h, _⟩
        · rcases hW'.old b h with h | h
          · exact hW.old b (m0' b h)
          · right; exact Nat.le_trans hW.size h
        · exact hW.old b h
      size := Nat.le_trans hW.size hW'.size
      pre := fun r h hr hb => bs_ r h (hW.pre r h hr hb)
      os := hW'.os.trans hW.os
      tape := hW'.tape.trans hW.tape
      output := hW'.output.trans hW.output
      laid := hW'.laid
      gle := hW.gle }
    refine hK _ _ (kk E1 hE1 bs2 _ _ ⟨⟨(hF.step hS).putT hd (hSV hV'), hW2⟩, fun r hr => ?_, Nat.le_add_right_of_le hmn⟩)
    have hr' : s.nx + 16 ≤ r := hr
    have h16 : lk O' (r - s.nx + pass.length) = none ∧ bs' (r - s.nx + pass.length) = none := hfr' _ (by rw [← hlen]; omega)
    refine ⟨?_, ?_⟩
    · show lk O3 r = none
      cases hx : lk O3 r with
      | none => rfl
      | some o2 =>
        exfalso
        rcases cases3 r o2 hx with ⟨j, o', q1, q2, _⟩ | rfl | ⟨_, q2⟩
        · unfold sig at q1
          split at q1
          · rename_i r' hp
            simp only [Option.some.injEq] at q1
            subst q1
            have := (hpl j _ hp).1
            omega
          · rename_i hp
            simp only [Option.some.injEq] at q1
            have : pass.length ≤ j := List.getElem?_eq_none_iff.1 hp
            rw [(hfr' j (by rw [← hlen]; omega)).1] at q2
            cases q2
        · rw [lk_append, lk_append, lk_deads] at hx
          cases hx2 : lk O2 r with
          | some y =>
            obtain ⟨j, o', q1, q2, _⟩ := hOB.get r y hx2
            unfold sig at q1
            split at q1
            · rename_i r' hp
              simp only [Option.some.injEq] at q1
              subst q1
              have := (hpl j _ hp).1
              omega
            · rename_i hp
              simp only [Option.some.injEq] at q1
              have : pass.length ≤ j := List.getElem?_eq_none_iff.1 hp
              rw [(hfr' j (by rw [← hlen]; omega)).1] at q2
              cases q2
          | none =>
            rw [hx2] at hx
            simp only [Option.none_or] at hx
            split at hx
            · rename_i hmem
              obtain ⟨j, hj⟩ := List.getElem?_of_mem hmem
              have := (hpl j r hj).1
              omega
            · rw [(hfr r (by omega)).1] at hx
              cases hx
        · have := oldnx r o2 q2
          omega
    · have e : bs2 r = bs' (r - s.nx + pass.length) := if_neg (by omega)
      show bs2 r = none
      rw [e]; exact h16.2
end

end Go.Eng
/- The engine, part 16: rules for code; a function's contract out of its body. -/
namespace Go.Eng

def thenA (K : St → Prop) (Q : Exit → St → Prop) : Exit → St → Prop
  | .normal, s => K s
  | e, s => Q e s

def blockA (id : Nat) (Q : Exit → St → Prop) : Exit → St → Prop
  | .exit i, s => match Nat.beq i id with
    | true => Q .normal s
    | false => Q (.exit i) s
  | e, s => Q e s

section
variable {C : Ctx} {m N : Nat} {Q : Exit → St → Prop} {s s' : St} {x y : Code}

theorem AWP.skip (h : Q .normal s) : AWP C m N .skip Q s := fun _ _ bs _ _ hr => wp_skip ⟨s, bs, h, hr⟩
theorem AWP.label {l : Nat} (h : Q .normal s) : AWP C m N (.label l) Q s := fun _ _ bs _ _ hr => wp_label ⟨s, bs, h, hr⟩
theorem AWP.exit {id : Nat} (h : Q (.exit id) s) : AWP C m N (.exit id) Q s := fun _ _ bs _ _ hr => wp_exit ⟨s, bs, h, hr⟩
theorem AWP.ret (h : Q .ret s) : AWP C m N .ret Q s := fun _ _ bs _ _ hr => wp_ret ⟨s, bs, h, hr⟩

theorem AWP.seq (h : AWP C m N x (thenA (AWP C m N y Q) Q) s) : AWP C m N (.seq x y) Q s := by
  intro E hE bs a w hr
  refine wp_seq (wp_mono (h E hE bs a w hr) ?_)
  rintro e a w ⟨s', bs', hq, hr'⟩
  cases e with
  | normal => exact hq E hE bs' a w hr'
  | exit id => exact ⟨s', bs', hq, hr'⟩
  | goto l => exact ⟨s', bs', hq, hr'⟩
  | ret => exact ⟨s', bs', hq, hr'⟩
  | panic c => exact ⟨s', bs', hq, hr'⟩
  | outgrown => exact ⟨s', bs', hq, hr'⟩

theorem AWP.block {id : Nat} (h : AWP C m N x (blockA id Q) s) : AWP C m N (.block id x) Q s := by
  intro E hE bs a w hr
  refine wp_block (wp_mono (h E hE bs a w hr) ?_)
  rintro e a w ⟨s', bs', hq, hr'⟩
  cases e with
  | exit i =>
    simp only [blockA] at hq
    split at hq
    · rename_i hb
      have hi := Nat.eq_of_beq_eq_true hb
      simp only [Exit.inBlock, hi, if_true]
      exact ⟨s', bs', hq, hr'⟩
    · rename_i hb
      have hi : ¬ i = id := fun h => by subst h; simp [Nat.beq_refl] at hb
      simp only [Exit.inBlock, hi, if_false]
      exact ⟨s', bs', hq, hr'⟩
  | normal => exact ⟨s', bs', hq, hr'⟩
  | goto l => exact ⟨s', bs', hq, hr'⟩
  | ret => exact ⟨s', bs', hq, hr'⟩
  | panic c => exact ⟨s', bs', hq, hr'⟩
  | outgrown => exact ⟨s', bs', hq, hr'⟩

theorem AWP.cond {c : Operand} {b : Bool} (hc : evO (lk s.T) c = some (.bool b)) (ht : b = true → AWP C m N x Q s) (hf : b = false → AWP C m N y Q s) : AWP C m N (.cond c x y) Q s := by
  intro E hE bs a w hr
  have hv := evO_sound hr.1.1 hc
  generalize hx : a.eval c = v at hv
  cases hv
  exact wp_cond_split hx (fun h => ht h E hE bs a w hr) (fun h => hf h E hE bs a w hr)

theorem AWP.region {id : Nat} {l : List Oper} (h : AOps C m N l.toArray l Q s) : AWP C m N (.region id l.toArray false) Q s :=
  fun E hE bs a w hr => wp_region_lit (h E hE bs a w hr)

theorem AWP.weak {ρ : Nat → Option Nat} (hw : Weak m ρ s s') (h : AWP C m N x Q s') : AWP C m N x Q s := by
  intro E hE bs a w hr
  subst hE
  obtain ⟨bs', hr', _⟩ := hr.weak hw
  exact h E rfl bs' a w hr'

theorem AOps.weak {ops : Array Oper} {l : List Oper} {ρ : Nat → Option Nat} (hw : Weak m ρ s s') (h : AOps C m N ops l Q s') : AOps C m N ops l Q s := by
  intro E hE bs a w hr
  subst hE
  obtain ⟨bs', hr', _⟩ := hr.weak hw
  exact h E rfl bs' a w hr'

/-- A loop: a family of states that each round leads on to, at a smaller measure. -/
theorem AWP.loop {ι : Type} (S : ι → St) (I : ι → Prop) (μ : ι → Nat) (i0 : ι) (hI : I i0) {ρ0 : Nat → Option Nat} (hw : Weak m ρ0 s (S i0))
    (round : ∀ i, I i → AWP C m N x (thenA (fun s' => ∃ i' ρ, I i' ∧ μ i' < μ i ∧ Weak m ρ s' (S i')) Q) (S i)) : AWP C m N (.loop x) Q s := by
  intro E hE bs a w hr
  subst hE
  obtain ⟨bs0, hr0, _⟩ := hr.weak hw
  refine wp_loop_ghost (fun n a w => ∃ i bs, I i ∧ μ i = n ∧ RepS C E N (S i) bs a w) (μ i0) ⟨i0, bs0, hI, rfl, hr0⟩ ?_
  rintro n a w ⟨i, bs, hi, rfl, hr⟩
  refine wp_mono (round i hi E rfl bs a w hr) ?_
  rintro e a w ⟨s', bs', hq, hr'⟩
  cases e with
  | normal =>
    obtain ⟨i', ρ, hi', hlt, hwk⟩ := hq
    obtain ⟨bs'', hr'', _⟩ := hr'.weak hwk
    exact ⟨μ i', hlt, i', bs'', hi', rfl, hr''⟩
  | exit id => exact ⟨s', bs', hq, hr'⟩
  | goto l => exact ⟨s', bs', hq, hr'⟩
  | ret => exact ⟨s', bs', hq, hr'⟩
  | panic c => exact ⟨s', bs', hq, hr'⟩
  | outgrown => exact ⟨s', bs', hq, hr'⟩
end

/-- New names: the first m stay, the others by a list. -/
def ren (m : Nat) (l : List (Nat × Nat)) (r : Nat) : Option Nat := match Nat.blt r m with
  | true => some r
  | false => lk l r

def renOK (m nx : Nat) : List (Nat × Nat) → Bool
  | [] => true
  | (_, k) :: l => Nat.ble m k && Nat.blt k nx && !(hasN (l.map Prod.snd) k) && renOK m nx l

theorem hasN_iff (l : List Nat) (k : Nat) : hasN l k = true ↔ k ∈ l := by
  induction l with
  | nil => simp [hasN]
  | cons d l ih =>
    simp only [hasN]
    split
    · rename_i h
      simp [Nat.eq_of_beq_eq_true h]
    · rename_i h
      have : ¬ k = d := fun e => by subst e; simp [Nat.beq_refl] at h
      simp [ih, this]

theorem lk_mem {α : Type} : ∀ (l : List (Nat × α)) (i : Nat) (x : α), lk l i = some x → (i, x) ∈ l
  | [], i, x, h => by simp [lk] at h
  | p :: l, i, x, h => by
    rw [lk_cons] at h
    split at h
    · rename_i e
      simp only [Option.some.injEq] at h
      obtain ⟨a, b⟩ := p
      simp only at e h
      subst e; subst h
      simp
    · exact List.mem_cons_of_mem _ (lk_mem l i x h)

theorem renOK_lk {m nx : Nat} : ∀ (l : List (Nat × Nat)), renOK m nx l = true → (∀ r k, lk l r = some k → m ≤ k ∧ k < nx) ∧ ∀ r r' k, lk l r = some k → lk l r' = some k → r = r'
  | [], _ => ⟨fun r k h => by simp [lk] at h, fun r r' k h => by simp [lk] at h⟩
  | (x, y) :: l, h => by
    simp only [renOK, Bool.and_eq_true, Nat.ble_eq, Nat.blt_eq, Bool.not_eq_true'] at h
    obtain ⟨⟨⟨h1, h2⟩, h3⟩, h4⟩ := h
    obtain ⟨i1, i2⟩ := renOK_lk l h4
    have no : ∀ r, lk l r ≠ some y := fun r hr => by
      have := lk_mem l r y hr
      have hm : y ∈ l.map Prod.snd := List.mem_map.2 ⟨_, this, rfl⟩
      rw [(hasN_iff _ _).2 hm] at h3
      cases h3
    refine ⟨fun r k hr => ?_, fun r r' k hr hr' => ?_⟩
    · rw [lk_cons] at hr
      split at hr
      · simp only [Option.some.injEq] at hr
        subst hr
        exact ⟨h1, h2⟩
      · exact i1 r k hr
    · rw [lk_cons] at hr hr'
      split at hr
      · rename_i e
        simp only [Option.some.injEq] at hr
        subst hr
        split at hr'
        · rename_i e'
          exact e.symm.trans e'
        · exact (no r' hr').elim
      · split at hr'
        · simp only [Option.some.injEq] at hr'
          subst hr'
          exact (no r hr).elim
        · exact i2 r r' k hr hr'

def TLe (ρ : Nat → Option Nat) (T : List (Nat × AV)) : List (Nat × AV) → Prop
  | [] => True
  | (d, u') :: l => (∃ u, lk T d = some u ∧ u.rn ρ = u') ∧ TLe ρ T l

theorem TLe.get {ρ : Nat → Option Nat} {T : List (Nat × AV)} : ∀ {l : List (Nat × AV)}, TLe ρ T l → ∀ d u', lk l d = some u' → ∃ u, lk T d = some u ∧ u.rn ρ = u'
  | [], _, d, u', h => by simp [lk] at h
  | (x, y) :: l, hT, d, u', h => by
    rw [lk_cons] at h
    split at h
    · rename_i e
      have e' : x = d := e
      subst e'
      simp only [Option.some.injEq] at h
      subst h
      exact hT.1
    · exact TLe.get hT.2 d u' h

def OBackF (σ : Nat → Option Nat) (O : List (Nat × AObj)) (l : List (Nat × AObj)) : Prop := OBack σ O l

theorem Weak.of {m nx nx' : Nat} {dec dec' : List Nat} {T T' : List (Nat × AV)} {O O' : List (Nat × AObj)} (l : List (Nat × Nat)) (h1 : renOK m nx' l = true) (h2 : TLe (ren m l) T T') (h3 : OBack (ren m l) O O') (h4 : m ≤ nx') :
    Weak m (ren m l) ⟨T, O, nx, dec⟩ ⟨T', O', nx', dec'⟩ := by
  obtain ⟨i1, i2⟩ := renOK_lk l h1
  have lo : ∀ r, r < m → ren m l r = some r := fun r hr => by
    have : Nat.blt r m = true := by simpa [Nat.blt_eq] using hr
    simp [ren, this]
  have hi : ∀ r, ¬ r < m → ren m l r = lk l r := fun r hr => by
    have : Nat.blt r m = false := by
      cases hb : Nat.blt r m with
      | false => rfl
      | true => exact absurd (by simpa [Nat.blt_eq] using hb) hr
    simp [ren, this]
  refine ⟨lo, fun r r' k hr hr' => ?_, fun d u' h => h2.get d u' h, fun k o' h => ?_, fun r k hr => ?_, h4⟩
  · by_cases h : r < m
    · rw [lo r h] at hr
      by_cases h' : r' < m
      · rw [lo r' h'] at hr'
        rw [← Option.some.inj hr'] at hr
        exact Option.some.inj hr
      · rw [hi r' h'] at hr'
        have := (i1 r' k hr').1
        have := Option.some.inj hr
        omega
    · rw [hi r h] at hr
      by_cases h' : r' < m
      · rw [lo r' h'] at hr'
        have := (i1 r k hr).1
        have := Option.some.inj hr'
        omega
      · rw [hi r' h'] at hr'
        exact i2 r r' k hr hr'
  · obtain ⟨j, o, h5, h6, h7⟩ := h3.get k o' h
    exact ⟨j, o, h5, h6, h7⟩
  · by_cases h : r < m
    · rw [lo r h] at hr
      have := Option.some.inj hr
      show k < nx'
      omega
    · rw [hi r h] at hr
      exact (i1 r k hr).2

/-- What the result variables hold at the end. -/
def resA (te : TE) (T : Nat → Option AV) (O : Nat → Option AObj) : List ResultVar → Option (List AV × Prop)
  | [] => some ([], True)
  | .tmp t :: l => match T t, resA te T O l with
    | some u, some (us, vc) => some (u :: us, vc)
    | _, _ => none
  | .cell a t :: l => match T a with
    | some p => match loadA te O t p, resA te T O l with
      | some (u, v1), some (us, vc) => some (u :: us, v1 ∧ vc)
      | _, _ => none
    | none => none

def one : List AV → AV
  | [u] => u
  | us => .tuple us

def resOne (tmps : Array Value) : ResultVar → Sem Value
  | .tmp t => pure (tmps.getD t undef)
  | .cell x t => do loadVar t (← asAddr (tmps.getD x undef))

section
variable {C : Ctx} {te : TE} (hte : TE.ok C.P te) (hn : ∀ t ti, lk te t = some ti → isAggD ti.desc = false → ti.sz = 1) {E : Ent} {O : Nat → Option AObj} {bs : Nat → Option Hd} {w : World} {N : Nat} {T : Nat → Option AV} {a : Act}
include hte hn

theorem resA_sound (hF : FRep w (MB E O bs) bs N T a) (hW : WRep C E O bs w) : ∀ (l : List ResultVar) (us : List AV) (vc : Prop), resA te T O l = some (us, vc) → vc →
    ∃ vs : List Value, (l.mapM (resOne a.tmps)).run C.P w = .ok vs w ∧ vs.length = us.length ∧ ∀ (j : Nat) v u, vs[j]? = some v → us[j]? = some u → V w (MB E O bs) bs v u
  | [], us, vc, h, _ => by
    simp only [resA, Option.some.injEq, Prod.mk.injEq] at h
    obtain ⟨rfl, rfl⟩ := h
    exact ⟨[], by simp, rfl, fun j v u h => by simp at h⟩
  | .tmp t :: l, us, vc, h, hvc => by
    simp only [resA] at h
    split at h
    · rename_i u us' vc' hu hl
      simp only [Option.some.injEq, Prod.mk.injEq] at h
      obtain ⟨rfl, rfl⟩ := h
      obtain ⟨vs, h1, h2, h3⟩ := resA_sound hF hW l _ _ hl hvc
      obtain ⟨v, hv, hV⟩ := hF.2.2 t u hu
      refine ⟨v :: vs, ?_, by simp [h2], fun j x y hx hy => ?_⟩
      · have e : a.tmps.getD t undef = v := by simp [Array.getD_eq_getD_getElem?, hv]
        simp only [List.mapM_cons, resOne, Sem.run_bind, Sem.run_pure, Result.andThen_ok, h1, e]
      · cases j with
        | zero => simp at hx hy; subst hx; subst hy; exact hV
        | succ j => exact h3 j x y (by simpa using hx) (by simpa using hy)
    · cases h
  | .cell x t :: l, us, vc, h, hvc => by
    simp only [resA] at h
    split at h
    · rename_i p hp
      split at h
      · rename_i u v1 us' vc' hu hl
        simp only [Option.some.injEq, Prod.mk.injEq] at h
        obtain ⟨rfl, rfl⟩ := h
        obtain ⟨vs, h1, h2, h3⟩ := resA_sound hF hW l _ _ hl hvc.2
        obtain ⟨px, hv, hV⟩ := hF.2.2 x p hp
        obtain ⟨v, hv1, hv2⟩ := loadA_sound hte hn hW hV hu hvc.1
        have ha : ∃ ad, px = .pointer (some ad) := by
          unfold loadA at hu
          split at hu
          · split at hu
            · rename_i hg
              unfold ptrCells at hg
              split at hg <;> first | cases hg; done | skip
              · cases hV; exact ⟨_, rfl⟩
              · cases hV; exact ⟨_, rfl⟩
              · cases hV; exact ⟨_, rfl⟩
            · cases hu
          · cases hu
        obtain ⟨ad, rfl⟩ := ha
        have hv1' : (loadVar t ad).run C.P w = .ok v w := by simpa [Instr.loadAt, Instr.sureAddr] using hv1
        refine ⟨v :: vs, ?_, by simp [h2], fun j y z hy hz => ?_⟩
        · have e : a.tmps.getD x undef = .pointer (some ad) := by simp [Array.getD_eq_getD_getElem?, hv]
          simp only [List.mapM_cons, resOne, Sem.run_bind, Sem.run_pure, Result.andThen_ok, h1, e, asAddr, hv1']
        · cases j with
          | zero => simp at hy hz; subst hy; subst hz; exact hv2
          | succ j => exact h3 j y z (by simpa using hy) (by simpa using hz)
      · cases h
    · cases h

theorem results_sound (hF : FRep w (MB E O bs) bs N T a) (hW : WRep C E O bs w) {fn : Func} {us : List AV} {vc : Prop} (h : resA te T O fn.results.toList = some (us, vc)) (hvc : vc) :
    ∃ v, (results fn a.tmps).run C.P w = .ok v w ∧ V w (MB E O bs) bs v (one us) := by
  obtain ⟨vs, h1, h2, h3⟩ := resA_sound hte hn hF hW _ _ _ h hvc
  have hm : (fn.results.mapM (resOne a.tmps)).run C.P w = .ok vs.toArray w := by
    rw [Array.mapM_eq_mapM_toList]
    show Sem.run C.P ((do let x ← List.mapM (resOne a.tmps) fn.results.toList; pure (List.toArray x)) : Sem (Array Value)) w = _
    simp only [Sem.run_bind, h1, Result.andThen_ok, Sem.run_pure]
  have e : results fn a.tmps = (do
      let vs ← fn.results.mapM (resOne a.tmps)
      pure (if h : vs.size = 1 then vs[0] else .tuple vs)) := rfl
  rw [e]
  simp only [Sem.run_bind, hm, Result.andThen_ok, Sem.run_pure]
  refine ⟨_, rfl, ?_⟩
  match us, vs, h2, h3 with
  | [], [], _, _ => exact .tuple rfl (fun j v u hv hu => absurd hv (by simp))
  | [u], [v], _, h3 => exact h3 0 v u rfl rfl
  | u :: u' :: us, v :: v' :: vs, h2, h3 => exact .tuple (by simpa using h2) (fun j v u hv hu => h3 j v u (by simpa using hv) hu)
end

def enum {α : Type} : Nat → List α → List (Nat × α)
  | _, [] => []
  | i, x :: l => (i, x) :: enum (i + 1) l

theorem lk_enum {α : Type} : ∀ (l : List α) (k i : Nat), lk (enum k l) i = if k ≤ i then l[i - k]? else none
  | [], k, i => by simp [enum, lk]
  | x :: l, k, i => by
    rw [enum, lk_cons, lk_enum l (k + 1) i]
    by_cases h : k = i
    · subst h; simp
    · simp only [h, if_false]
      by_cases h' : k + 1 ≤ i
      · have e : i - k = (i - (k + 1)) + 1 := by omega
        simp [h', show k ≤ i by omega, e]
      · simp [h', show ¬ k ≤ i by omega]

/-- What must hold where the body ends. -/
def bodyA (te : TE) (rs : List ResultVar) (m : Nat) (R : AV → List (Nat × AObj) → Prop) (e : Exit) (s : St) : Prop :=
  (e = .normal ∨ e = .ret) ∧ ∃ us vc, resA te (lk s.T) (lk s.O) rs = some (us, vc) ∧ vc ∧ ∃ ρ s', Weak m ρ s s' ∧ s'.nx ≤ m + 16 ∧ R ((one us).rn ρ) s'.O

theorem ACalls.body {C : Ctx} {te : TE} (hte : TE.ok C.P te) (hn : ∀ t ti, lk te t = some ti → isAggD ti.desc = false → ti.sz = 1) {f : FuncId} {fn : Func} {c : Code} {args : List AV} {objs : List AObj} {R : AV → List (Nat × AObj) → Prop} {N : Nat}
    (hf : C.P.funcs[f]? = some fn) (hb : fn.body = some c) (hname : (fn.name == "runtime.NumGoroutine") = false) (hN : fn.ntmps = N) (hl : Nat.ble args.length N = true)
    (h : AWP C objs.length N c (bodyA te fn.results.toList objs.length R) ⟨enum 0 args, enum 0 objs, objs.length, []⟩) : ACalls C f args objs R := by
  refine ⟨⟨fn, hf, by simp [hb], hname⟩, fun E bs w cargs h1 h2 h3 h4 h5 h6 h7 => ?_⟩
  refine calls_of_wp hf hb ?_
  have hO : lk (enum 0 objs) = lkL objs := by funext i; rw [lk_enum]; simp [lkL]
  refine wp_mono (h E h2 bs { tmps := cargs.toArray ++ Array.replicate (fn.ntmps - cargs.toArray.size) undef, defers := [] } w ⟨⟨⟨rfl, ?_, fun i u hu => ?_⟩, ?_⟩, fun r hr => ⟨?_, h5 r hr⟩, by rw [h2]; exact Nat.le_refl _⟩) ?_
  · have := Nat.le_of_ble_eq_true hl
    simp [hN]; omega
  · have hu' : lk (enum 0 args) i = some u := hu
    rw [lk_enum] at hu'
    simp only [Nat.zero_le, if_true, Nat.sub_zero] at hu'
    have hlt : i < cargs.length := by rw [h6]; exact (List.getElem?_eq_some_iff.1 hu').1
    refine ⟨cargs[i], ?_, ?_⟩
    · rw [Array.getElem?_append_left (by simpa using hlt)]
      simp [hlt]
    · show V w (MB E (lk (enum 0 objs)) bs) bs _ u
      rw [hO]
      exact h7 i _ u (List.getElem?_eq_getElem hlt) hu'
  · show WRep C E (lk (enum 0 objs)) bs w
    rw [hO]; exact h4
  · show lk (enum 0 objs) r = none
    rw [lk_enum]
    have hr' : objs.length ≤ r := hr
    simp [hr']
  · rintro e a' w' ⟨s1, bs1, ⟨hex, us, vc, hres, hvc, ρ, s2, hwk, hnx, hR⟩, hr⟩
    obtain ⟨v, hv1, hv2⟩ := results_sound hte hn hr.1.1 hr.1.2 hres hvc
    obtain ⟨bs2, hr2, hVV⟩ := hr.weak (by rw [h2]; exact hwk)
    have : bodyPost C.P fn (fun e w' => ∃ v u O' bs', e = .returned v ∧ R u O' ∧ WRep C E (lk O') bs' w' ∧ V w' (MB E (lk O') bs') bs' v u ∧ ∀ r, objs.length + 16 ≤ r → lk O' r = none ∧ bs' r = none) .ret a' w' :=
      ⟨hr.1.1.1, v, hv1, v, _, s2.O, bs2, rfl, hR, hr2.1.2, hVV v _ hv2, fun r hr' => hr2.2.1 r (by omega)⟩
    rcases hex with rfl | rfl
    · exact this
    · exact this

end Go.Eng
/- The engine, part 17: the table of types, row by row. -/
namespace Go.Eng

theorem TE.ok_nil {P : Program} : TE.ok P [] := fun t ti h => by simp [lk] at h

theorem info_of {P : Program} {t : Nat} {i : TypeInfo} (h : P.types[t]? = some i) : P.info? t = some i := by
  have hlt : t < P.types.size := (Array.getElem?_eq_some_iff.1 h).1
  have : P.info? t = if t < P.types.size then P.types[t]? else Made.infoAt _ Made.depth t := rfl
  rw [this, if_pos hlt, h]

theorem TE.ok_cons {P : Program} {t : Nat} {d : TypeDesc} {sz bytes : Nat} {zero : Value} {cmp : Bool} {te : TE} (h1 : P.underlying t = some d) (h2 : ∃ i, P.types[t]? = some i ∧ i.size = sz ∧ i.bytes = bytes ∧ i.zero = some zero)
    (h3 : cmp = true → P.stoodInHeld t = false ∧ P.eqGuardType P.depth t = false ∧ ∀ fs, d = .struct fs → ∀ f ∈ fs.toList, f.name ≠ "_") (h : TE.ok P te) : TE.ok P ((t, ⟨d, sz, bytes, zero, cmp⟩) :: te) := by
  intro t' ti ht
  rw [lk_cons] at ht
  split at ht
  · rename_i e
    have e' : t = t' := e
    subst e'
    simp only [Option.some.injEq] at ht
    subst ht
    obtain ⟨i, a, b⟩ := h2
    exact ⟨h1, ⟨i, info_of a, b⟩, h3⟩
  · exact h t' ti ht

theorem TE.one_of {te : TE} (h : te.all (fun p => isAggD p.2.desc || Nat.beq p.2.sz 1) = true) : ∀ t ti, lk te t = some ti → isAggD ti.desc = false → ti.sz = 1 := by
  intro t ti ht ha
  have := List.all_eq_true.1 h _ (lk_mem te t ti ht)
  simp only [ha, Bool.false_or] at this
  exact Nat.eq_of_beq_eq_true this

end Go.Eng
