/- Lemmas that the tied card of ScannerValid is proved by. -/
import Derived.Test.YtokpcnppihgdlaaGreatDoorGn
import Derived.Test.YtokpcnppihgdlaaGreatDoorGm
import Derived.Test.YtokpcnppihgdlaaGreatDoorGl
/- A nil slice of the answer, told as data of no element. -/
namespace Go.Eng

def nilv (sz : Nat) (f : Nat → List AV) : AV → AV
  | .nil => .view sz 0 f
  | u => u
def nilvA (sz : Nat) (f : Nat → List AV) : AV → AV
  | .agg cs => .agg (cs.map (nilv sz f))
  | u => nilv sz f u
def nilvC (sz : Nat) (f : Nat → List AV) : AV → AV
  | .tuple cs => .tuple (cs.map (nilvA sz f))
  | u => nilvA sz f u

section
variable {w : World} {M : Nat → Prop} {bs : Nat → Option Hd} {sz : Nat} {f : Nat → List AV}
theorem V.nilv {v : Value} {u : AV} (h : V w M bs v u) : V w M bs v (Eng.nilv sz f u) := by
  cases u with
  | nil => cases h; exact .view ⟨0, 0, none⟩ (fun _ _ => undef) (Nat.le_refl _) (Nat.zero_le _) (fun h => by omega) (fun i hi => by omega) (fun i hi => by omega) (fun i hi => by omega) (fun i hi => by omega)
  | _ => exact h
theorem V.nilvA {v : Value} {u : AV} (h : V w M bs v u) : V w M bs v (Eng.nilvA sz f u) := by
  cases u with
  | agg cs =>
    cases h with
    | agg hl h1 hv =>
      refine .agg (by rw [List.length_map]; exact hl) h1 fun j v u hj hu => ?_
      rw [List.getElem?_map] at hu
      obtain ⟨u0, hu0, rfl⟩ := Option.map_eq_some_iff.1 hu
      exact V.nilv (hv j v u0 hj hu0)
  | _ => exact V.nilv (sz := sz) (f := f) h
theorem V.nilvC {v : Value} {u : AV} (h : V w M bs v u) : V w M bs v (Eng.nilvC sz f u) := by
  cases u with
  | tuple cs =>
    cases h with
    | tuple hl hv =>
      refine .tuple (by rw [List.length_map]; exact hl) fun j v u hj hu => ?_
      rw [List.getElem?_map] at hu
      obtain ⟨u0, hu0, rfl⟩ := Option.map_eq_some_iff.1 hu
      exact V.nilvA (hv j v u0 hj hu0)
  | _ => exact V.nilvA (sz := sz) (f := f) h
end

theorem ACalls.nilv {C : Ctx} {g : FuncId} {args : List AV} {objs : List AObj} {R : AV → List (Nat × AObj) → Prop} (sz : Nat) (f : Nat → List AV) (h : ACalls C g args objs fun u O => R (nilvC sz f u) O) : ACalls C g args objs R := by
  refine ⟨h.1, fun E bs w cargs h1 h2 h3 h4 h5 h6 h7 => ?_⟩
  refine (h.2 E bs w cargs h1 h2 h3 h4 h5 h6 h7).mono ?_
  rintro e w' ⟨v, u, O', bs', r1, r2, r3, r4, r5⟩
  exact ⟨v, _, O', bs', r1, r2, r3, V.nilvC r4, r5⟩
end Go.Eng
/- A nil slice in a cell of an object that is handed over, told as data of no element. -/
namespace Go.Eng

theorem WRep.nilC {C : Ctx} {E : Ent} {O : Nat → Option AObj} {bs : Nat → Option Hd} {w : World} (hW : WRep C E O bs w) {r0 : Nat} {cs : List AV} {ct : TypeId} (hd : O r0 = some (.cells cs ct)) {j0 : Nat} (hnil : cs[j0]? = some .nil) (sz : Nat) (f : Nat → List AV) :
    MB E (up O r0 (.cells (cs.set j0 (.view sz 0 f)) ct)) bs = MB E O bs ∧ WRep C E (up O r0 (.cells (cs.set j0 (.view sz 0 f)) ct)) bs w := by
  have hlk : ∀ r o, up O r0 (.cells (cs.set j0 (.view sz 0 f)) ct) r = some o → (r = r0 ∧ o = .cells (cs.set j0 (.view sz 0 f)) ct) ∨ (r ≠ r0 ∧ O r = some o) := fun r o ho => by
    by_cases e : r0 = r
    · subst e
      rw [up_same] at ho
      exact .inl ⟨rfl, (Option.some.inj ho).symm⟩
    · rw [up_other _ _ _ e] at ho
      exact .inr ⟨fun e' => e e'.symm, ho⟩
  have hback : ∀ r o, O r = some o → ∃ o', up O r0 (.cells (cs.set j0 (.view sz 0 f)) ct) r = some o' ∧ o'.mut = o.mut := fun r o ho => by
    by_cases e : r0 = r
    · subst e
      rw [hd] at ho
      obtain rfl := Option.some.inj ho
      exact ⟨_, up_same _ _ _, rfl⟩
    · exact ⟨o, by rw [up_other _ _ _ e]; exact ho, rfl⟩
  have hold : ∀ r o, up O r0 (.cells (cs.set j0 (.view sz 0 f)) ct) r = some o → ∃ o', O r = some o' ∧ o'.mut = o.mut := fun r o ho => by
    rcases hlk r o ho with ⟨rfl, rfl⟩ | ⟨_, h2⟩
    · exact ⟨_, hd, rfl⟩
    · exact ⟨_, h2, rfl⟩
  have hMB : MB E (up O r0 (.cells (cs.set j0 (.view sz 0 f)) ct)) bs = MB E O bs := by
    funext b
    apply propext
    constructor
    · rintro (h | ⟨r, o, c, h1, h2, h3⟩)
      · exact .inl h
      · obtain ⟨o', q1, q2⟩ := hold r o h1
        exact .inr ⟨r, o', c, q1, q2.trans h2, h3⟩
    · rintro (h | ⟨r, o, c, h1, h2, h3⟩)
      · exact .inl h
      · obtain ⟨o', q1, q2⟩ := hback r o h1
        exact .inr ⟨r, o', c, q1, q2.trans h2, h3⟩
  have hmb : ∀ b, mutB (up O r0 (.cells (cs.set j0 (.view sz 0 f)) ct)) bs b → mutB O bs b := fun b ⟨r, o, c, h1, h2, h3⟩ => by
    obtain ⟨o', q1, q2⟩ := hold r o h1
    exact ⟨r, o', c, q1, q2.trans h2, h3⟩
  refine ⟨hMB, ?_⟩
  exact {
    obj := fun r o ho => by
      rw [hMB]
      rcases hlk r o ho with ⟨rfl, rfl⟩ | ⟨hne, ho⟩
      · obtain ⟨b, c, vs, q1, q2, q3, q4, q5⟩ := hW.obj r _ hd
        refine ⟨b, c, vs, q1, q2, by rw [List.length_set]; exact q3, q4, fun j v u hv hu => ?_⟩
        by_cases hj : j0 = j
        · subst hj
          have hlt : j0 < cs.length := by
            rcases Nat.lt_or_ge j0 cs.length with h | h
            · exact h
            · rw [List.getElem?_eq_none h] at hnil; cases hnil
          rw [List.getElem?_set_self hlt] at hu
          obtain rfl := Option.some.inj hu
          have hV := q5 j0 v _ hv hnil
          cases hV
          exact .view ⟨0, 0, none⟩ (fun _ _ => undef) (Nat.le_refl _) (Nat.zero_le _) (fun h => by omega) (fun i hi => by omega) (fun i hi => by omega) (fun i hi => by omega) (fun i hi => by omega)
        · rw [List.getElem?_set_ne hj] at hu
          exact q5 j v u hv hu
      · exact hW.obj r o ho
    sep := fun r r' o1 o2 b c c' h1 h2 m1 m2 b1 b2 => by
      obtain ⟨o1', p1, p2⟩ := hold r o1 h1
      obtain ⟨o2', p3, p4⟩ := hold r' o2 h2
      exact hW.sep r r' o1' o2' b c c' p1 p3 (p2.trans m1) (p4.trans m2) b1 b2
    out := fun b hb => hW.out b (hmb b hb)
    frz := fun r t' sz' n f b c ho hb => by
      rw [hMB]
      rcases hlk r _ ho with ⟨rfl, h⟩ | ⟨hne, ho⟩
      · cases h
      · exact hW.frz r t' sz' n f b c ho hb
    high := fun b hb => hW.high b (by rw [← hMB]; exact hb)
    lt := hW.lt
    outlt := hW.outlt
    keep := hW.keep
    old := fun b hb => hW.old b (hmb b hb)
    size := hW.size
    pre := hW.pre
    os := hW.os
    tape := hW.tape
    output := hW.output
    laid := hW.laid
    gle := hW.gle }

theorem lkL_set {objs : List AObj} {r : Nat} {x : AObj} (h : r < objs.length) : lkL (objs.set r x) = up (lkL objs) r x := by
  funext k
  unfold lkL
  by_cases e : r = k
  · subst e
    rw [up_same, List.getElem?_set_self h]
  · rw [up_other _ _ _ e, List.getElem?_set_ne e]

/-- A call whose object r has nil in its cell j: as with data of no element there. -/
theorem ACalls.nilObj {C : Ctx} {g : FuncId} {args : List AV} {objs : List AObj} {R : AV → List (Nat × AObj) → Prop} (r j sz : Nat) (f : Nat → List AV) {cs : List AV} {ct : TypeId} (hr : objs[r]? = some (.cells cs ct)) (hj : cs[j]? = some .nil)
    (h : ACalls C g args (objs.set r (.cells (cs.set j (.view sz 0 f)) ct)) R) : ACalls C g args objs R := by
  have hlt : r < objs.length := (List.getElem?_eq_some_iff.1 hr).1
  refine ⟨h.1, fun E bs w cargs h1 h2 h3 h4 h5 h6 h7 => ?_⟩
  obtain ⟨q1, q2⟩ := h4.nilC (show lkL objs r = some (.cells cs ct) from hr) hj sz f
  rw [← lkL_set hlt] at q1 q2
  have := h.2 E bs w cargs h1 (by rw [List.length_set]; exact h2) h3 q2 (by rw [List.length_set]; exact h5) h6 (by rw [q1]; exact h7)
  rw [List.length_set] at this
  exact this

/-- A call with nil in its arguments: as with data of no element there. -/
theorem ACalls.nilArg {C : Ctx} {g : FuncId} {args : List AV} {objs : List AObj} {R : AV → List (Nat × AObj) → Prop} (sz : Nat) (f : Nat → List AV) (h : ACalls C g (args.map (nilvA sz f)) objs R) : ACalls C g args objs R := by
  refine ⟨h.1, fun E bs w cargs h1 h2 h3 h4 h5 h6 h7 => ?_⟩
  refine h.2 E bs w cargs h1 h2 h3 h4 h5 (by rw [List.length_map]; exact h6) fun j v u hv hu => ?_
  rw [List.getElem?_map] at hu
  obtain ⟨u0, hu0, rfl⟩ := Option.map_eq_some_iff.1 hu
  exact V.nilvA (h7 j v u0 hv hu0)
end Go.Eng
/- A row that nobody writes any more, told as data from a place on. -/
namespace Go.Eng

def frzT (r sz n : Nat) (g : Nat → List AV) : List (Nat × AV) → List (Nat × AV)
  | [] => []
  | p :: l => (p.1, frzC r sz n g p.2) :: frzT r sz n g l
def frzSt (r : Nat) (s : St) : St := match lk s.O r with
  | some (.row _ sz n g _) => ⟨frzT r sz n g s.T, rm r s.O, s.nx, s.dec⟩
  | _ => s
def frzOK (r : Nat) (s : St) : Prop := match lk s.O r with
  | some (.row _ _ n g _) => ∀ i, i < n → nrefL (g i) = true
  | _ => True
theorem lk_frzT {r sz n : Nat} {g : Nat → List AV} : ∀ {T : List (Nat × AV)} {i : Nat} {u : AV}, lk (frzT r sz n g T) i = some u → ∃ u0, lk T i = some u0 ∧ u = frzC r sz n g u0
  | [], i, u, h => by cases h
  | p :: T, i, u, h => by
    rw [frzT, lk_cons] at h
    rw [lk_cons]
    by_cases e : p.1 = i
    · rw [if_pos e] at h ⊢
      exact ⟨_, rfl, (Option.some.inj h).symm⟩
    · rw [if_neg e] at h ⊢
      exact lk_frzT h

theorem RepS.frz {C : Ctx} {E : Ent} {N : Nat} {s : St} {bs : Nat → Option Hd} {a : Act} {w : World} (h : RepS C E N s bs a w) (r : Nat) (hf : frzOK r s) : RepS C E N (frzSt r s) bs a w := by
  unfold frzSt
  unfold frzOK at hf
  split
  · rename_i t sz n g fr hO
    rw [hO] at hf
    obtain ⟨⟨hF, hW⟩, hnx, hm⟩ := h
    obtain ⟨hS, hW1⟩ := hW.freeze hO
    have hF1 := hF.step hS
    obtain ⟨hS2, hW2⟩ := hW1.less (O' := lk (rm r s.O)) fun k o hk => by
      obtain ⟨q1, q2⟩ := lk_rmv r s.O k o hk
      rw [up_other _ _ _ q1]; exact q2
    refine ⟨⟨⟨hF.1, hF.2.1, fun i u hu => ?_⟩, hW2⟩, fun k hk => ⟨?_, (hnx k hk).2⟩, hm⟩
    · obtain ⟨u0, h0, rfl⟩ := lk_frzT hu
      obtain ⟨v, hv, hV⟩ := hF1.2.2 i u0 h0
      exact ⟨v, hv, (V.frzC hW1 (up_same _ _ _) hf hV).step hS2⟩
    · show lk (rm r s.O) k = none
      cases hx : lk (rm r s.O) k with
      | none => rfl
      | some o =>
        have := (lk_rmv r s.O k o hx).2
        rw [(hnx k hk).1] at this; cases this
  · exact h

theorem AWP.frz {C : Ctx} {m N : Nat} {c : Code} {Q : Exit → St → Prop} {s : St} (r : Nat) (hf : frzOK r s) (h : AWP C m N c Q (frzSt r s)) : AWP C m N c Q s := by
  intro E hE bs a w hr
  exact h E hE bs a w (hr.frz r hf)
/-- .. behind the code. -/
theorem AWP.frzQ {C : Ctx} {m N : Nat} {c : Code} {Q : Exit → St → Prop} {s : St} (r : Nat) (h : AWP C m N c (fun e s' => frzOK r s' ∧ Q e (frzSt r s')) s) : AWP C m N c Q s := by
  intro E hE bs a w hr
  refine wp_mono (h E hE bs a w hr) ?_
  rintro e a w ⟨s', bs', ⟨hf, hq⟩, hr'⟩
  exact ⟨_, bs', hq, hr'.frz r hf⟩

/-- A row of the answer, if it is there, told as data. -/
def frzO (r : Nat) (R : AV → List (Nat × AObj) → Prop) (u : AV) (O : List (Nat × AObj)) : Prop := match lk O r with
  | some (.row _ sz n g _) => (∀ i, i < n → nrefL (g i) = true) ∧ R (frzC r sz n g u) (rm r O)
  | _ => R u O
theorem ACalls.frzO {C : Ctx} {f : FuncId} {args : List AV} {objs : List AObj} {R : AV → List (Nat × AObj) → Prop} (r : Nat) (h : ACalls C f args objs (Eng.frzO r R)) : ACalls C f args objs R := by
  refine ⟨h.1, fun E bs w cargs h1 h2 h3 h4 h5 h6 h7 => ?_⟩
  refine (h.2 E bs w cargs h1 h2 h3 h4 h5 h6 h7).mono ?_
  rintro e w' ⟨v, u, O', bs', r1, hR0, r3, r4, r5⟩
  unfold Eng.frzO at hR0
  split at hR0
  · rename_i t sz n g fr hO
    obtain ⟨hg, hR⟩ := hR0
    obtain ⟨hS, hW1⟩ := r3.freeze hO
    have hV := V.frzC hW1 (up_same _ _ _) hg (r4.step hS)
    obtain ⟨hS2, hW2⟩ := hW1.less (O' := lk (rm r O')) fun k o hk => by
      obtain ⟨q1, q2⟩ := lk_rmv r O' k o hk
      rw [up_other _ _ _ q1]; exact q2
    refine ⟨v, _, rm r O', bs', r1, hR, hW2, hV.step hS2, fun k hk => ⟨?_, (r5 k hk).2⟩⟩
    cases hx : lk (rm r O') k with
    | none => rfl
    | some o =>
      have := (lk_rmv r O' k o hx).2
      rw [(r5 k hk).1] at this; cases this
  · exact ⟨v, u, O', bs', r1, hR0, r3, r4, r5⟩

/-- A region (or any code without loops that have promises), told by itself. -/
def regP (G : Env) (x : Code) (Fe : List Nat) (Q : Exit → St → Prop) (s : St) : Prop := wpC G x (Eng.canQ G.te G.m Fe [] Q) s
theorem LoopOK.reg {C : Ctx} {te : TE} (hte : Prg C te) {m N : Nat} {x : Code} {s S : St} {Q : Exit → St → Prop} (calls : List (Nat × CSpec)) (fuel : Nat) (hc : CallsOK C calls) (F Fe : List Nat)
    (h0 : canonIs te m F s S) (h : regP ⟨te, calls, [], m, N, fuel⟩ x Fe Q S) (hS : rowVC S.O True) : AWP C m N x Q s := by
  have hG : EnvOK C ⟨te, calls, [], m, N, fuel⟩ := ⟨hte.ok, hte.one, hc⟩
  exact AWP.canonIs F h0 (wpC_ok hG x _ _ (by rw [loopsOf_nil]; intro p hp; simp at hp) h).canQ hS

/-- A row told by another function that gives the same. -/
theorem WRep.rowEq {C : Ctx} {E : Ent} {O : Nat → Option AObj} {bs : Nat → Option Hd} {w : World} (hW : WRep C E O bs w) {r0 : Nat} {t sz n : Nat} {f f' : Nat → List AV} {fr : Bool} (hd : O r0 = some (.row t sz n f fr)) (hf : ∀ i, i < n → f' i = f i) :
    MB E (up O r0 (.row t sz n f' fr)) bs = MB E O bs ∧ WRep C E (up O r0 (.row t sz n f' fr)) bs w := by
  have hlk : ∀ r o, up O r0 (.row t sz n f' fr) r = some o → (r = r0 ∧ o = .row t sz n f' fr) ∨ (r ≠ r0 ∧ O r = some o) := fun r o ho => by
    by_cases e : r0 = r
    · subst e
      rw [up_same] at ho
      exact .inl ⟨rfl, (Option.some.inj ho).symm⟩
    · rw [up_other _ _ _ e] at ho
      exact .inr ⟨fun e' => e e'.symm, ho⟩
  have hback : ∀ r o, O r = some o → ∃ o', up O r0 (.row t sz n f' fr) r = some o' ∧ o'.mut = o.mut := fun r o ho => by
    by_cases e : r0 = r
    · subst e
      rw [hd] at ho
      obtain rfl := Option.some.inj ho
      exact ⟨_, up_same _ _ _, rfl⟩
    · exact ⟨o, by rw [up_other _ _ _ e]; exact ho, rfl⟩
  have hold : ∀ r o, up O r0 (.row t sz n f' fr) r = some o → ∃ o', O r = some o' ∧ o'.mut = o.mut := fun r o ho => by
    rcases hlk r o ho with ⟨rfl, rfl⟩ | ⟨_, h2⟩
    · exact ⟨_, hd, rfl⟩
    · exact ⟨_, h2, rfl⟩
  have hMB : MB E (up O r0 (.row t sz n f' fr)) bs = MB E O bs := by
    funext b
    apply propext
    constructor
    · rintro (h | ⟨r, o, c, h1, h2, h3⟩)
      · exact .inl h
      · obtain ⟨o', q1, q2⟩ := hold r o h1
        exact .inr ⟨r, o', c, q1, q2.trans h2, h3⟩
    · rintro (h | ⟨r, o, c, h1, h2, h3⟩)
      · exact .inl h
      · obtain ⟨o', q1, q2⟩ := hback r o h1
        exact .inr ⟨r, o', c, q1, q2.trans h2, h3⟩
  have hmb : ∀ b, mutB (up O r0 (.row t sz n f' fr)) bs b → mutB O bs b := fun b ⟨r, o, c, h1, h2, h3⟩ => by
    obtain ⟨o', q1, q2⟩ := hold r o h1
    exact ⟨r, o', c, q1, q2.trans h2, h3⟩
  refine ⟨hMB, ?_⟩
  exact {
    obj := fun r o ho => by
      rw [hMB]
      rcases hlk r o ho with ⟨rfl, rfl⟩ | ⟨hne, ho⟩
      · rcases hW.obj r _ hd with h | ⟨b, c, vs, h1, h2, h3, h4, h5, h6, h7, h8⟩
        · exact .inl h
        · exact .inr ⟨b, c, vs, h1, h2, h3, h4, h5, fun i hi => by rw [hf i hi]; exact h6 i hi, h7, fun i hi j v u hj hv hu => h8 i hi j v u hj hv (by rw [← hf i hi]; exact hu)⟩
      · exact hW.obj r o ho
    sep := fun r r' o1 o2 b c c' h1 h2 m1 m2 b1 b2 => by
      obtain ⟨o1', p1, p2⟩ := hold r o1 h1
      obtain ⟨o2', p3, p4⟩ := hold r' o2 h2
      exact hW.sep r r' o1' o2' b c c' p1 p3 (p2.trans m1) (p4.trans m2) b1 b2
    out := fun b hb => hW.out b (hmb b hb)
    frz := fun r t' sz' n' f2 b c ho hb => by
      rw [hMB]
      rcases hlk r _ ho with ⟨rfl, h⟩ | ⟨hne, ho⟩
      · injection h with e1 e2 e3 e4 e5
        subst e5
        exact hW.frz r _ _ _ _ b c hd hb
      · exact hW.frz r t' sz' n' f2 b c ho hb
    high := fun b hb => hW.high b (by rw [← hMB]; exact hb)
    lt := hW.lt
    outlt := hW.outlt
    keep := hW.keep
    old := fun b hb => hW.old b (hmb b hb)
    size := hW.size
    pre := hW.pre
    os := hW.os
    tape := hW.tape
    output := hW.output
    laid := hW.laid
    gle := hW.gle }

/-- A call that is handed a row told by another function that gives the same. -/
theorem ACalls.rowEq {C : Ctx} {g : FuncId} {args : List AV} {objs : List AObj} {R : AV → List (Nat × AObj) → Prop} (r : Nat) {t sz n : Nat} {f f' : Nat → List AV} {fr : Bool} (hr : objs[r]? = some (.row t sz n f fr)) (hf : ∀ i, i < n → f' i = f i)
    (h : ACalls C g args (objs.set r (.row t sz n f' fr)) R) : ACalls C g args objs R := by
  have hlt : r < objs.length := (List.getElem?_eq_some_iff.1 hr).1
  refine ⟨h.1, fun E bs w cargs h1 h2 h3 h4 h5 h6 h7 => ?_⟩
  obtain ⟨q1, q2⟩ := h4.rowEq (show lkL objs r = some (.row t sz n f fr) from hr) hf
  rw [← lkL_set hlt] at q1 q2
  have := h.2 E bs w cargs h1 (by rw [List.length_set]; exact h2) h3 q2 (by rw [List.length_set]; exact h5) h6 (by rw [q1]; exact h7)
  rw [List.length_set] at this
  exact this

/-- A call that is handed one row of our own, which is given up: as with data in its place. -/
theorem ADet.give {C : Ctx} {g : FuncId} {args args' : List AV} {U : AV} {t sz n : Nat} {f : Nat → List AV} {fr : Bool} (h : ADet C g args' [] U []) (ha : args.map (frzC 0 sz n f) = args') (hn : nrefL args' = true) (hU : nref U = true) (hf : ∀ i, i < n → nrefL (f i) = true) :
    ADet C g args [.row t sz n f fr] U [] := by
  refine ⟨h.1, fun E bs w cargs h1 h2 h3 h4 h5 h6 h7 => ?_⟩
  obtain ⟨hS, hW1⟩ := h4.freeze (show lkL [.row t sz n f fr] 0 = some (.row t sz n f fr) from rfl)
  have no : ∀ r, lkL [] r = none := fun r => by cases r <;> rfl
  have nm : ∀ b', ¬ mutB (lkL []) nob b' := by
    rintro b' ⟨r, o, c, ho, _⟩
    rw [no r] at ho; cases ho
  have hout : ∀ b, E.outer b → b < w.heap.size := fun b hb => Nat.lt_of_lt_of_le (h4.outlt b hb) h4.size
  have hw : WRep C ⟨w, 0, nob, fun _ => False, E.outer⟩ (lkL []) nob w := {
    obj := fun r o ho => by rw [no r] at ho; cases ho
    sep := fun r r' o o' b c c' ho => by rw [no r] at ho; cases ho
    out := fun b hb => absurd hb (nm b)
    frz := fun r t sz n f b c ho => by rw [no r] at ho; cases ho
    high := fun b hb => by
      rcases hb with hb | hb
      · exact h4.high b (.inl hb)
      · exact absurd hb (nm b)
    lt := fun r b c hb => by simp [nob] at hb
    outlt := hout
    keep := fun b _ _ => rfl
    old := fun b hb => absurd hb (nm b)
    size := Nat.le_refl _
    pre := fun r x hr => absurd hr (Nat.not_lt_zero r)
    os := rfl
    tape := .refl _ _
    output := rfl
    laid := h4.laid
    gle := Nat.le_trans h4.gle h4.size }
  have hlen : cargs.length = args'.length := by rw [← ha, List.length_map]; exact h6
  refine (h.2 ⟨w, 0, nob, fun _ => False, E.outer⟩ nob w cargs rfl rfl rfl hw (fun _ _ => rfl) hlen (fun j v u hv hu => ?_)).mono ?_
  · rw [← ha, List.getElem?_map] at hu
    obtain ⟨u0, hu0, rfl⟩ := Option.map_eq_some_iff.1 hu
    have hV := V.frzC hW1 (up_same _ _ _) hf ((h7 j v u0 hv hu0).step hS)
    refine hV.free (fun b _ hb hb' => ?_) (fun _ _ _ => rfl) (Nat.le_refl _) nob (nrefL_get hn j _ (by rw [← ha, List.getElem?_map, hu0]; rfl))
    rcases hb' with hb' | hb'
    · exact hb (.inl hb')
    · exact nm b hb'
  · rintro e w' ⟨v, u, O', bs', rfl, ⟨rfl, rfl⟩, hw', hV', _⟩
    have nl : ∀ r, lk ([] : List (Nat × AObj)) r = none := fun r => rfl
    have nm' : ∀ (bs : Nat → Option Hd) b', ¬ mutB (lk []) bs b' := by
      rintro bs b' ⟨r, o, c, ho, _⟩
      cases ho
    subst h1
    refine ⟨v, u, [], bs, rfl, ⟨rfl, rfl⟩, ?_, hV'.free (fun b _ hb hb' => ?_) (fun _ _ _ => rfl) (Nat.le_refl _) bs hU, fun r hr => ⟨rfl, h5 r (by show 1 ≤ r; have : 1 + 16 ≤ r := hr; omega)⟩⟩
    · exact {
        obj := fun r o ho => by cases ho
        sep := fun r r' o o' b c c' ho => by cases ho
        out := fun b hb => absurd hb (nm' _ b)
        frz := fun r t sz n f b c ho => by cases ho
        high := fun b hb => by
          rcases hb with hb | hb
          · exact h4.high b (.inl hb)
          · exact absurd hb (nm' _ b)
        lt := fun r b c hb => Nat.lt_of_lt_of_le (h4.lt r b c hb) hw'.size
        outlt := h4.outlt
        keep := fun b hb _ => hw'.keep b hb (fun h => h)
        old := fun b hb => absurd hb (nm' _ b)
        size := hw'.size
        pre := fun r x hr hb => by rw [h3] at hb; exact hb
        os := hw'.os
        tape := hw'.tape
        output := hw'.output
        laid := hw'.laid
        gle := h4.gle }
    · rcases hb' with hb' | hb'
      · exact hb (.inl hb')
      · exact nm' _ b hb'
end Go.Eng
/- Comparing and sorting: what the library's functions answer. -/
namespace Go.Eng

def S_scmp : Spec
  | [.str a, .str b], [] => some (.int .i64 (cmpS a b), [], True)
  | _, _ => none
def S_nan : Spec
  | [.int .i64 _], [] => some (.bool false, [], True)
  | _, _ => none
def S_icmp : Spec
  | [.int .i64 a, .int .i64 b], [] => some (.int .i64 (cmpI a b), [], True)
  | _, _ => none
/-- The first of n numbers that is not 0. -/
def orN (v : Nat → Int) : Nat → Int
  | 0 => 0
  | k + 1 => bif decide (orN v k = 0) then v k else orN v k
def S_or : Spec
  | [.own 0 n], [.row t 1 m f fr] => some (.int .i64 (orN (vInt f) n), [(0, .row 3 1 n f false)], t = 3 ∧ fr = false ∧ n = m ∧ n ≤ 100 ∧ ∀ i, i < n → f i = intRow (vInt f) i)
  | _, _ => none
def S_orl (v : Nat → Int) (n k : Nat) : St := ⟨[(3, .int .i64 0), (6, .own 0 n), (7, .int .i64 n), (8, .int .i64 k)], [(0, .row 3 1 n (intRow v) false)], 1, []⟩
def L_or (v : Nat → Int) (n : Nat) : LSpec := fun st Q => canonIs te 1 [3, 6, 7, 8] st (S_orl v n 0) ∧ n ≤ 100 ∧
  condP (decide (orN v n = 0)) (Q (.exit 0) ⟨[(3, .int .i64 0)], [(0, .row 3 1 n (intRow v) false)], 1, []⟩) (Q .ret ⟨[(2, .int .i64 (orN v n))], [(0, .row 3 1 n (intRow v) false)], 1, []⟩)
/-- Rows compared by slot. -/
def S_rcmp : Spec
  | [.agg [.str o, .str p, .int .i64 per, .int .i64 u, .int .i64 tv], .agg [.str o', .str p', .int .i64 per', .int .i64 u', .int .i64 tv']], [] => some (.int .i64 (keyC ⟨o, p, per, u, tv⟩ ⟨o', p', per', u', tv'⟩), [], True)
  | _, _ => none
def rwRow (g : Nat → RW) (i : Nat) : List AV := [.str (g i).o, .str (g i).p, .int .i64 (g i).per, .int .i64 (g i).u, .int .i64 (g i).tv]
def rwOf (f : Nat → List AV) (i : Nat) : RW := match f i with
  | [.str o, .str p, .int .i64 per, .int .i64 u, .int .i64 tv] => ⟨o, p, per, u, tv⟩
  | _ => default
def lst {α : Type} (g : Nat → α) (n : Nat) : List α := (List.range n).map g
/-- Rows sorted by slot. -/
def srtR (l : List RW) : List RW := l.mergeSort fun a b => decide (keyC a b ≤ 0)
def R_sortR : RSpec
  | [.own 0 n, .func 53 []], [.row t 5 m f fr], R => t = 39 ∧ fr = false ∧ n = m ∧ n ≤ 1000000 ∧ f = rwRow (rwOf f) ∧ (lst (rwOf f) n).Pairwise (fun a b => sameK a b = false) ∧
      ∀ h : Nat → RW, lst h n = srtR (lst (rwOf f) n) → R (.tuple []) [(0, .row 39 5 n (rwRow h) false)]
  | _, _, _ => False
end Go.Eng
/- The row's arguments: rows of a scanner, read as data. -/
namespace Go.Eng
open Go.Proofs Go.RowKit
variable {H : Type} {enc : TypeId × Value → H} {W : World}
theorem undR : Tryz.prog.underlying 39 = some (.struct (fsOf 39)) := by kernel_rfl
theorem undRs : Tryz.prog.underlying 22 = some (.slice 39) := by kernel_rfl
theorem cR : Tryz.prog.cellsOf 39 = 5 := by kernel_rfl
theorem list5 {l : List Value} (h : l.length = 5) : ∃ a b c d e, l = [a, b, c, d, e] := by
  match l, h with
  | [a, b, c, d, e], _ => exact ⟨a, b, c, d, e, rfl⟩
theorem read_row {fuel : Nat} {cs : List Value} {x : DataW H × List MemPlace} {sp : Nat → Bool} {hd : Bool} (h : DataW.trod enc Tryz.prog W 0 sp hd fuel 39 cs = some x) : ∃ (s1 s2 : ByteArray) (i1 i2 i3 : Int), cs = [.string s1, .string s2, .int .i64 i1, .int .i64 i2, .int .i64 i3] := by
  obtain ⟨xs, n, rfl, _, hc, hl, hf⟩ := DataW.trod_struct undR h
  rw [cR] at hc
  obtain ⟨a, b, c, d, e, rfl⟩ := list5 hc
  obtain ⟨y0, h0⟩ := field hl hf 0 9 0 (by kernel_rfl)
  obtain ⟨y1, h1⟩ := field hl hf 1 9 1 (by kernel_rfl)
  obtain ⟨y2, h2⟩ := field hl hf 2 3 2 (by kernel_rfl)
  obtain ⟨y3, h3⟩ := field hl hf 3 2 3 (by kernel_rfl)
  obtain ⟨y4, h4⟩ := field hl hf 4 2 4 (by kernel_rfl)
  rw [cS] at h0 h1
  rw [cI] at h2
  rw [cI2] at h3 h4
  obtain ⟨s0, e0, _⟩ := DataW.trod_string undS h0
  obtain ⟨s1, e1, _⟩ := DataW.trod_string undS h1
  obtain ⟨i1, e2, _⟩ := DataW.trod_int undI h2
  obtain ⟨i2, e3, _⟩ := DataW.trod_int undI2 h3
  obtain ⟨i3, e4, _⟩ := DataW.trod_int undI2 h4
  simp at e0 e1 e2 e3 e4
  exact ⟨s0, s1, i1, i2, i3, by rw [e0, e1, e2, e3, e4]⟩
def txV (v : Option Value) : List UInt8 := match v with
  | some (.string s) => s.data.toList
  | _ => []
def nuV (v : Option Value) : Int := match v with
  | some (.int .i64 z) => z
  | _ => 0
theorem read_rows {fuel : Nat} {cs : List Value} {x : DataW H × List MemPlace} {sp : Nat → Bool} {hd : Bool} (h : DataW.trod enc Tryz.prog W 0 sp hd fuel 22 cs = some x) :
    ∃ (A : Option Addr) (n c : Nat) (g : Nat → RW), cs = [.slice A n c] ∧ V W (fun _ => False) nob (.slice A n c) (.view 5 n (rwRow g)) := by
  rcases DataW.trod_slice undRs h with ⟨rfl, _⟩ | ⟨a, len, cap, elems, rest, n, _, rfl, _, hb, hl, hm, hlen, hel, _⟩
  · exact ⟨none, 0, 0, fun _ => default, rfl, V_view _ (Nat.le_refl _) (Nat.zero_le _) (fun i hi => by omega) (.inl rfl)⟩
  · have hat : ∀ i, i < len → ∃ (s1 s2 : ByteArray) (i1 i2 i3 : Int), W.cell? (a.add (i * 5 + 0)) = some (.string s1) ∧ W.cell? (a.add (i * 5 + 1)) = some (.string s2) ∧ W.cell? (a.add (i * 5 + 2)) = some (.int .i64 i1) ∧ W.cell? (a.add (i * 5 + 3)) = some (.int .i64 i2) ∧ W.cell? (a.add (i * 5 + 4)) = some (.int .i64 i3) := by
      intro i hi
      have h1 := hel i hi
      rw [cR, List.getElem?_eq_getElem (by omega), Option.bind_eq_some_iff] at h1
      obtain ⟨cs', hcs, hy⟩ := h1
      obtain ⟨s1, s2, i1, i2, i3, rfl⟩ := read_row hy
      obtain ⟨_, _, h2⟩ := World.cells?_some hcs
      have q0 := h2 0 (by omega)
      have q1 := h2 1 (by omega)
      have q2 := h2 2 (by omega)
      have q3 := h2 3 (by omega)
      have q4 := h2 4 (by omega)
      rw [addr_add] at q0 q1 q2 q3 q4
      exact ⟨s1, s2, i1, i2, i3, q0, q1, q2, q3, q4⟩
    refine ⟨some a, len, cap, fun i => ⟨txV (W.cell? (a.add (i * 5 + 0))), txV (W.cell? (a.add (i * 5 + 1))), nuV (W.cell? (a.add (i * 5 + 2))), nuV (W.cell? (a.add (i * 5 + 3))), nuV (W.cell? (a.add (i * 5 + 4)))⟩, rfl, V_view _ hl hm (fun _ _ => rfl) ?_⟩
    by_cases h0 : len = 0
    · exact .inl h0
    · refine .inr ⟨a, rfl, ?_, fun i hi j hj => ?_⟩
      · have h1 := hel 0 (by omega)
        rw [List.getElem?_eq_getElem (show 0 < elems.length by omega), Option.bind_eq_some_iff] at h1
        obtain ⟨cs', hcs, _⟩ := h1
        rw [cR] at hcs
        have q := World.cells?_block hcs (by omega)
        rw [add_block] at q
        exact q
      · obtain ⟨s1, s2, i1, i2, i3, e0, e1, e2, e3, e4⟩ := hat i hi
        match j with
        | 0 =>
          refine ⟨_, e0, rfl, fun u hu => ?_⟩
          have hu : some (AV.str (txV (W.cell? (a.add (i * 5 + 0))))) = some u := hu
          rw [e0] at hu
          obtain rfl := Option.some.inj hu
          exact .str rfl
        | 1 =>
          refine ⟨_, e1, rfl, fun u hu => ?_⟩
          have hu : some (AV.str (txV (W.cell? (a.add (i * 5 + 1))))) = some u := hu
          rw [e1] at hu
          obtain rfl := Option.some.inj hu
          exact .str rfl
        | 2 =>
          refine ⟨_, e2, rfl, fun u hu => ?_⟩
          have hu : some (AV.int .i64 (nuV (W.cell? (a.add (i * 5 + 2))))) = some u := hu
          rw [e2] at hu
          obtain rfl := Option.some.inj hu
          exact .int
        | 3 =>
          refine ⟨_, e3, rfl, fun u hu => ?_⟩
          have hu : some (AV.int .i64 (nuV (W.cell? (a.add (i * 5 + 3))))) = some u := hu
          rw [e3] at hu
          obtain rfl := Option.some.inj hu
          exact .int
        | 4 =>
          refine ⟨_, e4, rfl, fun u hu => ?_⟩
          have hu : some (AV.int .i64 (nuV (W.cell? (a.add (i * 5 + 4))))) = some u := hu
          rw [e4] at hu
          obtain rfl := Option.some.inj hu
          exact .int
end Go.Eng
/- The rows' products cut short: the loop's states. -/
namespace Go.Eng

def t30 (nm : Nat → List UInt8) (i : Nat) : List UInt8 := (nm i).take 30
/-- The loop of raw; F: the view's elements; the cells of the product in the making. -/
def S_raw (id code brand : List UInt8) (d c a : Int) (n : Nat) (nm vl : Nat → List UInt8) (k : Nat) : St := ⟨[(2, .ptr 0 0), (3, .ptr 1 0), (36, .view 2 n (atRow nm vl)), (37, .int .i64 n), (38, .int .i64 k)],
  [(0, .cells [.str [], .str [], .str [], .int .i64 0, .int .i64 0, .int .i64 0, .nil] 96), (1, .cells [.str id, .str code, .str brand, .int .i64 d, .int .i64 c, .int .i64 a, .own 2 k] 96), (2, .row 122 2 k (atRow (t30 nm) (t30 vl)) false)], 3, []⟩
def L_raw (id code brand : List UInt8) (d c a : Int) (n : Nat) (nm vl : Nat → List UInt8) : LSpec := fun st Q => canonIs te 0 [2, 3, 36, 37, 38] (ownNilP 3 6 122 2 st) (S_raw id code brand d c a n nm vl 0) ∧ n ≤ 14 ∧
  Q (.exit 0) ⟨[(2, .ptr 0 0), (3, .ptr 1 0)], [(0, .cells [.str [], .str [], .str [], .int .i64 0, .int .i64 0, .int .i64 0, .nil] 96), (1, .cells [.str id, .str code, .str brand, .int .i64 d, .int .i64 c, .int .i64 a, .own 2 n] 96), (2, .row 122 2 n (atRow (t30 nm) (t30 vl)) false)], 3, []⟩

theorem take_m (s : List UInt8) (k : Int) : s.take (Int.toNat (min (s.length : Int) k)) = s.take k.toNat := by
  rcases Int.le_total (s.length : Int) k with h | h
  · rw [Int.min_eq_left h, Int.toNat_natCast, List.take_length, List.take_of_length_le (by omega)]
  · rw [Int.min_eq_right h]
/-- Cut short: what raw answers. -/
def R_raw : RSpec
  | [.agg [.str id, .str code, .str brand, .int .i64 d, .int .i64 c, .int .i64 a, .nil]], [], R => R (.agg [.str (id.take 20), .str (code.take 20), .str (brand.take 30), .int .i64 d, .int .i64 c, .int .i64 a, .nil]) []
  | [.agg [.str id, .str code, .str brand, .int .i64 d, .int .i64 c, .int .i64 a, .view sz n f]], [], R => sz = 2 ∧ f = atRow (nmOf f) (vlOf f) ∧
      R (.agg [.str (id.take 20), .str (code.take 20), .str (brand.take 30), .int .i64 d, .int .i64 c, .int .i64 a, .own 0 (min n 14)]) [(0, .row 122 2 (min n 14) (atRow (t30 (nmOf f)) (t30 (vlOf f))) false)]
  | _, _, _ => False
end Go.Eng
/- The tape: what its methods answer. -/
namespace Go.Eng

def foldV (n k : Int) : Int := n % 18446744073709551616 % k
def S_fold : Spec
  | [.int .i64 n, .int .i64 k], [] => some (.int .i64 (foldV n k), [], 1 ≤ k ∧ k ≤ 1000000)
  | _, _ => none
def nextV (n : Nat) (v : Nat → Int) (a k : Int) : Int := foldV (bif decide (a < n) then v a.toNat else 0) k
/-- Next: a number below k; the tape moves on. -/
def S_next : Spec
  | [.ptr 0 0, .int .i64 k], [.cells [.view sz n f, .int .i64 a] t] => some (.int .i64 (nextV n (vInt f) a k), [(0, .cells [.view 1 n f, .int .i64 (a + 1)] 28)], t = 28 ∧ sz = 1 ∧ f = intRow (vInt f) ∧ (1 ≤ k ∧ k ≤ 1000000) ∧ (0 ≤ a ∧ a ≤ 4611686018427387904))
  | _, _ => none
/-- ID: seven digits and the check digit. -/
def pw (V j : Nat) : Nat := V / 10 ^ j
def dgI (V k : Nat) : Int := 48 + ((V / 10 ^ (6 - k) % 10 : Nat) : Int)
def idRow (V : Nat) (k : Nat) : List AV := [.int .u8 (dgI V k)]
def idV (n : Int) : Nat := 1000000 + (foldV n 1000000).toNat
def id7 (n : Int) : List UInt8 := bytesA 7 (idRow (idV n))
def idF (n : Int) : List UInt8 := id7 n ++ [UInt8.ofNat (48 + (cdF (id7 n)).1).toNat]
def S_id : Spec
  | [.int .i64 n], [] => some (.str (idF n), [], True)
  | _, _ => none
def S_idl (V : Nat) (j : Nat) : St := ⟨[(3, .int .i64 (pw V j : Nat)), (4, .own 0 7), (5, .int .i64 (6 - (j : Int)))], [(0, .row 5 1 7 (fun k => [.int .u8 (bif decide (7 ≤ k + j) then dgI V k else 0)]) false)], 1, []⟩
def L_id (V : Nat) : LSpec := fun st Q => canonIs te 0 [3, 4, 5] st (S_idl V 0) ∧ V < 2000000 ∧
  Q (.exit 0) ⟨[(4, .own 0 7)], [(0, .row 5 1 7 (idRow V) false)], 1, []⟩

theorem foldV_range {k : Int} (h : 1 ≤ k) (n : Int) : 0 ≤ foldV n k ∧ foldV n k < k := by
  unfold foldV
  exact ⟨Int.emod_nonneg _ (by omega), Int.emod_lt_of_pos _ (by omega)⟩
theorem nextV_range {k : Int} (h : 1 ≤ k) (n : Nat) (v : Nat → Int) (a : Int) : 0 ≤ nextV n v a k ∧ nextV n v a k < k := foldV_range h _
theorem cdF_range (s : List UInt8) : 0 ≤ (cdF s).1 ∧ (cdF s).1 ≤ 9 := by
  unfold cdF
  split
  · show 0 ≤ (10 - cdSum s s.length % 10) % 10 ∧ (10 - cdSum s s.length % 10) % 10 ≤ 9
    omega
  · exact ⟨by decide, by decide⟩
theorem id7_len (n : Int) : (id7 n).length = 7 := by simp [id7, bytesA]
theorem idF_len (n : Int) : (idF n).length = 8 := by rw [idF, List.length_append, id7_len]; rfl
theorem dgI_range (V k : Nat) : 48 ≤ dgI V k ∧ dgI V k ≤ 57 := by
  unfold dgI
  have := Nat.mod_lt (V / 10 ^ (6 - k)) (show 0 < 10 by omega)
  omega
end Go.Eng
/- Products from a tape. -/
namespace Go.Eng

/-- Item: some product of two attributes, all its texts short. -/
def R_item : RSpec
  | [.ptr 0 0, .int .i64 k], [.cells [.view sz n f, .int .i64 a] t], R => t = 28 ∧ sz = 1 ∧ f = intRow (vInt f) ∧ (0 ≤ a ∧ a ≤ 4611686018427387000) ∧
      ∀ (id code brand : List UInt8) (d c q : Int) (nm vl : Nat → List UInt8) (a' : Int), id.length ≤ 30 → code.length ≤ 30 → brand.length ≤ 30 → (∀ i, i < 2 → (nm i).length ≤ 30 ∧ (vl i).length ≤ 30) → a' = a + 5 → id = idF k → valF id code brand d c q 2 nm vl = 0 →
      R (.agg [.str id, .str code, .str brand, .int .i64 d, .int .i64 c, .int .i64 q, .own 1 2]) [(0, .cells [.view 1 n f, .int .i64 a'] 28), (1, .row 122 2 2 (atRow nm vl) false)]
  | _, _, _ => False
def pick2 (x y : List UInt8) : Nat → List UInt8
  | 0 => x
  | _ + 1 => y
theorem getD_le {k : Nat} : ∀ {l : List (List UInt8)} (i : Nat), (l.all fun s => Nat.ble s.length k) = true → (l.getD i []).length ≤ k
  | [], i, _ => by simp
  | s :: l, 0, h => by
    simp only [List.all_cons, Bool.and_eq_true] at h
    exact Nat.le_of_ble_eq_true h.1
  | s :: l, i + 1, h => by
    simp only [List.all_cons, Bool.and_eq_true] at h
    exact getD_le i h.2
theorem u8_to {n : Int} (h0 : 0 ≤ n) (h1 : n < 256) : ((UInt8.ofNat n.toNat).toNat : Int) = n := by
  rw [UInt8.toNat_ofNat']
  have : n.toNat % 2 ^ 8 = n.toNat := Nat.mod_eq_of_lt (by omega)
  omega
theorem id7_dig (n : Int) : (id7 n).all isDig = true := by
  unfold id7 bytesA
  rw [List.all_map, List.all_eq_true]
  intro k _
  have h := dgI_range (idV n) k
  have e := u8_to (n := dgI (idV n) k) (by omega) (by omega)
  show isDig (UInt8.ofNat (dgI (idV n) k).toNat) = true
  unfold isDig
  rw [Bool.and_eq_true, decide_eq_true_eq, decide_eq_true_eq]
  omega
theorem idF_valid (n : Int) : validIDF (idF n) = true := by
  have hc := cdF_range (id7 n)
  have e := u8_to (n := 48 + (cdF (id7 n)).1) (by omega) (by omega)
  have hd : digitsF (idF n) 8 13 = true := by
    unfold digitsF
    rw [idF_len, Bool.and_eq_true]
    refine ⟨rfl, ?_⟩
    unfold idF
    rw [List.all_append, id7_dig, List.all_cons]
    unfold isDig
    rw [Bool.true_and, List.all_nil, Bool.and_true, Bool.and_eq_true, decide_eq_true_eq, decide_eq_true_eq]
    omega
  have ht : (idF n).take 7 = id7 n := by unfold idF; rw [← id7_len n]; exact List.take_left
  have hg : (idF n).getD 7 0 = UInt8.ofNat (48 + (cdF (id7 n)).1).toNat := by
    unfold idF
    rw [List.getD_eq_getElem?_getD, List.getElem?_append_right (by rw [id7_len]; exact Nat.le_refl _), id7_len]
    rfl
  unfold validIDF
  rw [hd, idF_len]
  show decide ((cdF ((idF n).take 7)).1 = (((idF n).getD 7 0).toNat : Int) - 48) = true
  rw [ht, hg, e, decide_eq_true_eq]
  omega
theorem item_ats : ∀ i, i < 3 → ∀ j, j < 4 → atsOK (pick2 [99, 111, 108, 111, 117, 114] [112, 111, 119, 101, 114]) (pick2 (List.getD [[114, 101, 100], [98, 108, 117, 101], [103, 114, 101, 101, 110]] i []) (List.getD [[49], [50], [50, 46, 53], [52]] j [])) 2 = true ∧
    atsOK (pick2 [112, 111, 119, 101, 114] [99, 111, 108, 111, 117, 114]) (pick2 (List.getD [[49], [50], [50, 46, 53], [52]] j []) (List.getD [[114, 101, 100], [98, 108, 117, 101], [103, 114, 101, 101, 110]] i [])) 2 = true := by decide +kernel
theorem item_code : ∀ i, i < 2 → parseOK (List.getD [[48, 49, 46, 49], [48, 49, 46, 50]] i []) = true := by decide +kernel
theorem item_qty {w : Int} (h0 : 0 ≤ w) (h1 : w < 4) : qtyF 1 1 (400000 + 50000 * w) = 0 := by
  have : w = 0 ∨ w = 1 ∨ w = 2 ∨ w = 3 := by omega
  rcases this with rfl | rfl | rfl | rfl <;> rfl
theorem item_val (k q : Int) (c0 : Nat) (x1 y1 x2 y2 : List UInt8) (hc : c0 < 2) (hq : qtyF 1 1 q = 0) (ha : atsOK (pick2 x1 x2) (pick2 y1 y2) 2 = true) :
    valF (idF k) (List.getD [[48, 49, 46, 49], [48, 49, 46, 50]] c0 []) [97, 99, 109, 101] 1 1 q 2 (pick2 x1 x2) (pick2 y1 y2) = 0 := by
  unfold valF
  rw [idF_valid, item_code c0 hc, hq, ha]
  rfl
end Go.Eng
/- Rows of a scanner: the loops' states. -/
namespace Go.Eng

def allRows (g : Nat → RW) : Nat → Bool
  | 0 => true
  | k + 1 => allRows g k && rowF (g k)
def svF (g : Nat → RW) (n : Nat) : Int := bif decide (24000 < n) then 130 else bif allRows g n then 0 else 131
def S_sname : Spec
  | [.str s], [] => some (.bool (nameF s), [], s.length < 4294967281)
  | _, _ => none
def S_valid : Spec
  | [.agg [.str o, .str p, .int .i64 per, .int .i64 u, .int .i64 tv]], [] => some (.bool (rowF ⟨o, p, per, u, tv⟩), [], o.length < 4294967281)
  | _, _ => none
def S_sval : Spec
  | [.view 5 n f], [] => some (.int .i64 (svF (rwOf f) n), [], n ≤ 1000000 ∧ f = rwRow (rwOf f) ∧ ∀ i, i < n → (rwOf f i).o.length < 4294967281)
  | _, _ => none
def S_sv (g : Nat → RW) (n k : Nat) : St := ⟨[(8, .view 5 n (rwRow g)), (9, .int .i64 n), (10, .int .i64 k)], [], 0, []⟩
def L_sv (g : Nat → RW) (n : Nat) : LSpec := fun st Q => canonIs te 0 [8, 9, 10] st (S_sv g n 0) ∧ n ≤ 24000 ∧ (∀ i, i < n → (g i).o.length < 4294967281) ∧
  condP (allRows g n) (Q (.exit 0) ⟨[], [], 0, []⟩) (Q .ret ⟨[(2, .int .i64 131)], [], 0, []⟩)
/-- The sums so far, as a map. -/
def entC (L : List RW) : List (AV × AV) := L.map fun r => (.agg [.str r.o, .str r.p, .int .i64 r.per], .agg [.str r.o, .str r.p, .int .i64 r.per, .int .i64 r.u, .int .i64 r.tv])
def atR (L : List RW) (i : Nat) : RW := L.getD i default
def combL (g : Nat → RW) (n : Nat) : List RW := bif decide (svF g n = 0) then srtR (sumsF g n) else []
def S_comb : Spec
  | [.view 5 n f], [] => some (.tuple [.view 5 (combL (rwOf f) n).length (rwRow (atR (combL (rwOf f) n))), .int .i64 (svF (rwOf f) n)], [], n ≤ 1000000 ∧ f = rwRow (rwOf f) ∧ ∀ i, i < n → (rwOf f i).o.length < 4294967281)
  | _, _ => none
def S_cb (g : Nat → RW) (n k : Nat) : St := ⟨[(5, .map 0), (18, .view 5 n (rwRow g)), (19, .int .i64 n), (20, .int .i64 k)], [(0, .amap (entC (sumsF g k)))], 1, []⟩
def L_cb (g : Nat → RW) (n : Nat) : LSpec := fun st Q => canonIs te 0 [5, 18, 19, 20] st (S_cb g n 0) ∧ n ≤ 24000 ∧ (∀ i, i < n → rowF (g i) = true) ∧ Q (.exit 0) ⟨[(5, .map 0)], [(0, .amap (entC (sumsF g n)))], 1, []⟩
structure IT where
  c : Nat
  h : Nat → RW
  c0 : Nat
  left : List Nat
def S_cr (L : List RW) (i : IT) : St := ⟨[(9, .own 0 i.c), (52, .ptr 1 0)], [(0, .row 39 5 i.c (rwRow i.h) false), (1, .miter 2 (entC L).length (82 :: i.c0 :: i.left)), (2, .amap (entC L))], 3, []⟩
def L_cr (L : List RW) : LSpec := fun st Q => canonIs te 0 [9, 52] (ownNil 9 39 5 st) (S_cr L ⟨0, fun _ => default, (entC L).length, List.range (entC L).length⟩) ∧ L.length ≤ 24000 ∧
  ∀ h : Nat → RW, (lst h L.length).Perm L → Q (.exit 2) ⟨[(9, .own 0 L.length)], [(0, .row 39 5 L.length (rwRow h) false)], 1, []⟩
/-- What the tape's methods answer. -/
def outF (i : Int) : List UInt8 := List.getD [[111, 49], [111, 50], [112]] i.toNat []
def S_outlet : Spec
  | [.ptr 0 0], [.cells [.view sz n f, .int .i64 a] t] => some (.str (outF (nextV n (vInt f) a 3)), [(0, .cells [.view 1 n f, .int .i64 (a + 1)] 28)], t = 28 ∧ sz = 1 ∧ f = intRow (vInt f) ∧ (0 ≤ a ∧ a ≤ 4611686018427387000))
  | _, _ => none
def S_product : Spec
  | [.ptr 0 0], [.cells [.view sz n f, .int .i64 a] t] => some (.str (idF (nextV n (vInt f) a 4)), [(0, .cells [.view 1 n f, .int .i64 (a + 1)] 28)], t = 28 ∧ sz = 1 ∧ f = intRow (vInt f) ∧ (0 ≤ a ∧ a ≤ 4611686018427387000))
  | _, _ => none
def rowV (n : Nat) (v : Nat → Int) (a : Int) : RW := ⟨outF (nextV n v (a + 1) 3), idF (nextV n v (a + 1 + 1) 4), 1440 + nextV n v (a + 1 + 1 + 1) 4, 1 + nextV n v a 20, (1 + nextV n v a 20) * (90 + nextV n v (a + 1 + 1 + 1 + 1) 30) + nextV n v (a + 1 + 1 + 1 + 1 + 1) 3⟩
def S_trow : Spec
  | [.ptr 0 0], [.cells [.view sz n f, .int .i64 a] t] => some (.agg [.str (rowV n (vInt f) a).o, .str (rowV n (vInt f) a).p, .int .i64 (rowV n (vInt f) a).per, .int .i64 (rowV n (vInt f) a).u, .int .i64 (rowV n (vInt f) a).tv], [(0, .cells [.view 1 n f, .int .i64 (a + 1 + 1 + 1 + 1 + 1 + 1)] 28)],
      t = 28 ∧ sz = 1 ∧ f = intRow (vInt f) ∧ (0 ≤ a ∧ a ≤ 4611686018427380000))
  | _, _ => none
end Go.Eng
/- The reference's Combine: the loops' states. -/
namespace Go.Eng

def S_slotR : Spec
  | [.str o, .str p, .int .i64 per], [] => some (.bool (slotF o p per), [], o.length < 4294967281)
  | _, _ => none
def S_period : Spec
  | [.int .i64 p], [] => some (.bool (decide (0 ≤ p) && decide (p ≤ 5999)), [], True)
  | _, _ => none
def S_before : Spec
  | [.agg [.str o, .str p, .int .i64 per, .int .i64 u, .int .i64 tv], .agg [.str o', .str p', .int .i64 per', .int .i64 u', .int .i64 tv']], [] => some (.bool (decide (keyC ⟨o, p, per, u, tv⟩ ⟨o', p', per', u', tv'⟩ < 0)), [], True)
  | _, _ => none
def S_rv (g : Nat → RW) (n k : Nat) : St := ⟨[(8, .view 5 n (rwRow g)), (9, .int .i64 n), (10, .int .i64 k)], [], 0, []⟩
def L_rv (g : Nat → RW) (n : Nat) : LSpec := fun st Q => canonIs te 0 [8, 9, 10] st (S_rv g n 0) ∧ n ≤ 24000 ∧ (∀ i, i < n → (g i).o.length < 4294967281) ∧
  condP (allRows g n) (Q (.exit 0) ⟨[], [], 0, []⟩) (Q .ret ⟨[(2, .int .i64 131)], [], 0, []⟩)
structure RX where
  k : Nat
  L : List RW
/-- The place of a row in a list that ascends. -/
def plc : List RW → RW → Nat
  | [], _ => 0
  | x :: l, r => bif decide (keyC x r < 0) then plc l r + 1 else 0
def S_rc (g : Nat → RW) (n : Nat) (i : RX) : St := ⟨[(5, .own 0 i.L.length), (15, .view 5 n (rwRow g)), (16, .int .i64 n), (17, .int .i64 i.k)], [(0, .row 39 5 i.L.length (rwRow (atR i.L)) false)], 1, []⟩
def S_rj (g : Nat → RW) (n len : Nat) (h : Nat → RW) (x : RW) (k a : Nat) : St := ⟨[(5, .own 0 len), (7, .ptr 1 0), (8, .int .i64 a), (15, .view 5 n (rwRow g)), (16, .int .i64 n), (17, .int .i64 k)],
  [(0, .row 39 5 len (rwRow h) false), (1, .cells [.str x.o, .str x.p, .int .i64 x.per, .int .i64 x.u, .int .i64 x.tv] 39)], 2, []⟩
def S_ri (g : Nat → RW) (n : Nat) (i : RX) (a : Nat) : St := S_rj g n i.L.length (atR i.L) (g i.k) i.k a
def L_ri (g : Nat → RW) (n : Nat) (i : RX) : LSpec := fun st Q => canonIs te 0 [5, 7, 8, 15, 16, 17] st (S_ri g n i 0) ∧ i.L.length ≤ 24000 ∧
  Q (.exit 2) (S_rj g n i.L.length (atR i.L) (g i.k) i.k (plc i.L (g i.k)))
def setU (h : Nat → RW) (a : Nat) (x : RW) (j : Nat) : RW := if j = a then ⟨(h a).o, (h a).p, (h a).per, (h a).u + x.u, (h a).tv⟩ else h j
def setT (h : Nat → RW) (a : Nat) (x : RW) (j : Nat) : RW := if j = a then ⟨(h a).o, (h a).p, (h a).per, (h a).u, (h a).tv + x.tv⟩ else h j
def L_r12 (g : Nat → RW) (n len : Nat) (h : Nat → RW) (x : RW) (k a : Nat) : LSpec := fun st Q => canonIs te 0 [5, 7, 8, 15, 16, 17] st (S_rj g n len h x k a) ∧ a < len ∧ inR .i64 ((h a).u + x.u) ∧ Q .normal (S_rj g n len (setU h a x) x k a)
def L_r13 (g : Nat → RW) (n len : Nat) (h : Nat → RW) (x : RW) (k a : Nat) : LSpec := fun st Q => canonIs te 0 [5, 7, 8, 15, 16, 17] st (S_rj g n len h x k a) ∧ a < len ∧ inR .i64 ((h a).tv + x.tv) ∧ Q .normal (S_rj g n len (setT h a x) x k a)
def L_rc (g : Nat → RW) (n : Nat) : LSpec := fun st Q => canonIs te 0 [5, 15, 16, 17] (ownNil 5 39 5 st) (S_rc g n ⟨0, []⟩) ∧ n ≤ 24000 ∧ (∀ i, i < n → rowF (g i) = true) ∧
  Q (.exit 0) ⟨[(5, .own 0 (srtR (sumsF g n)).length)], [(0, .row 39 5 (srtR (sumsF g n)).length (rwRow (atR (srtR (sumsF g n)))) false)], 1, []⟩
/-- Are two lists of rows the same? -/
def eqRows (g h : Nat → RW) : Nat → Bool
  | 0 => true
  | k + 1 => eqRows g h k && (decide ((g k).o = (h k).o) && (decide ((g k).p = (h k).p) && (decide ((g k).per = (h k).per) && (decide ((g k).u = (h k).u) && decide ((g k).tv = (h k).tv)))))
def S_same13 : Spec
  | [.view 5 n f, .view 5 m h], [] => some (.bool (decide (n = m) && eqRows (rwOf f) (rwOf h) n), [], n ≤ 1000000 ∧ f = rwRow (rwOf f) ∧ h = rwRow (rwOf h))
  | _, _ => none
def S_sr (g h : Nat → RW) (n k : Nat) : St := ⟨[(0, .view 5 n (rwRow g)), (1, .view 5 n (rwRow h)), (12, .int .i64 n), (13, .int .i64 k)], [], 0, []⟩
def L_sr (g h : Nat → RW) (n : Nat) : LSpec := fun st Q => canonIs te 0 [0, 1, 12, 13] st (S_sr g h n 0) ∧ n ≤ 1000000 ∧
  condP (eqRows g h n) (Q (.exit 0) ⟨[], [], 0, []⟩) (Q .ret ⟨[(4, .bool false)], [], 0, []⟩)
end Go.Eng
/- The laws of scanner rows: the loops' states. -/
namespace Go.Eng

/-- Rows of a tape: right, with small numbers. -/
structure RW.Made (r : RW) : Prop where
  ok : rowF r = true
  o : r.o.length ≤ 2
  u : 1 ≤ r.u ∧ r.u ≤ 20
  tv : 1 ≤ r.tv ∧ r.tv ≤ 2400
structure RwS where
  c : Nat
  g : Nat → RW
  a : Int
def RW.put (g : Nat → RW) (k : Nat) (r : RW) (i : Nat) : RW := if i < k then g i else r
def S_rws (n : Nat) (v : Nat → Int) (N : Int) (i : RwS) : St := ⟨[(0, .ptr 0 0), (5, .own 1 i.c), (9, .int .i64 N), (10, .int .i64 i.c)],
  [(0, .cells [.view 1 n (intRow v), .int .i64 i.a] 28), (1, .row 39 5 i.c (rwRow i.g) false)], 2, []⟩
def L_rws (n : Nat) (v : Nat → Int) (a N : Int) : LSpec := fun st Q => canonIs te 1 [0, 5, 9, 10] (ownNil 5 39 5 st) (S_rws n v N ⟨0, fun _ => default, a⟩) ∧ (0 ≤ N ∧ N ≤ 100) ∧ (0 ≤ a ∧ a ≤ 4611686018427375000) ∧
  ∀ i : RwS, i.c = N.toNat → i.a = a + 6 * i.c → (∀ j, j < i.c → (i.g j).Made) → Q (.exit 0) ⟨[(5, .own 1 i.c)], [(0, .cells [.view 1 n (intRow v), .int .i64 i.a] 28), (1, .row 39 5 i.c (rwRow i.g) false)], 2, []⟩
def R_rows : RSpec
  | [.ptr 0 0, .int .i64 most], [.cells [.view sz n f, .int .i64 a] t], R => t = 28 ∧ sz = 1 ∧ f = intRow (vInt f) ∧ (0 ≤ a ∧ a ≤ 4611686018427370000) ∧ (0 ≤ most ∧ most ≤ 90) ∧
      ∀ (c : Nat) (g : Nat → RW) (a' : Int), c ≤ most.toNat → (a ≤ a' ∧ a' ≤ a + 600) → (∀ j, j < c → (g j).Made) →
      R (.own 1 c) [(0, .cells [.view 1 n f, .int .i64 a'] 28), (1, .row 39 5 c (rwRow g) false)]
  | _, _, _ => False
/-- Rows cut short. -/
def cutR (g : Nat → RW) (i : Nat) : RW := ⟨(g i).o.take 30, (g i).p.take 30, (g i).per, (g i).u, (g i).tv⟩
def S_rw13 (g : Nat → RW) (n k : Nat) : St := ⟨[(3, .own 0 k), (10, .view 5 n (rwRow g)), (11, .int .i64 n), (12, .int .i64 k)], [(0, .row 39 5 k (rwRow (cutR g)) false)], 1, []⟩
def L_rw13 (g : Nat → RW) (n : Nat) : LSpec := fun st Q => canonIs te 0 [3, 10, 11, 12] (ownNil 3 39 5 st) (S_rw13 g n 0) ∧ n ≤ 15 ∧ Q (.exit 0) ⟨[(3, .own 0 n)], [(0, .row 39 5 n (rwRow (cutR g)) false)], 1, []⟩
def S_raw13 : Spec
  | [.view 5 n f], [] => some (.view 5 (min n 15) (rwRow (cutR (rwOf f))), [], f = rwRow (rwOf f))
  | _, _ => none
/-- Made rows with at most one fault: some rows with short names. -/
def R_sp13 : RSpec
  | [.ptr 0 0], [.cells [.view sz n f, .int .i64 a] t], R => t = 28 ∧ sz = 1 ∧ f = intRow (vInt f) ∧ (0 ≤ a ∧ a ≤ 4611686018427360000) ∧
      ∀ (c : Nat) (g : Nat → RW) (a' : Int), c ≤ 12 → (a ≤ a' ∧ a' ≤ a + 700) → (∀ j, j < c → (g j).o.length ≤ 30) →
      R (.view 5 c (rwRow g)) [(0, .cells [.view 1 n f, .int .i64 a'] 28)]
  | _, _, _ => False
/-- Combine, handed a row of our own. -/
def S_combO : Spec
  | [.own 0 n], [.row t 5 m f fr] => some (.tuple [.view 5 (combL (rwOf f) n).length (rwRow (atR (combL (rwOf f) n))), .int .i64 (svF (rwOf f) n)], [], n = m ∧ n ≤ 1000000 ∧ (∀ i, i < n → f i = rwRow (rwOf f) i) ∧ ∀ i, i < n → (rwOf f i).o.length < 4294967281)
  | _, _ => none
def S_awake13 : Spec
  | [], [] => some (.bool true, [], True)
  | _, _ => none
end Go.Eng
/- The laws of scanner rows: more states. -/
namespace Go.Eng

def R_trow0 : RSpec
  | [.ptr 0 0], [.cells [.nil, .int .i64 a] t], R => t = 28 ∧ (0 ≤ a ∧ a ≤ 4611686018427380000) ∧
      ∀ r : RW, r.Made → R (.agg [.str r.o, .str r.p, .int .i64 r.per, .int .i64 r.u, .int .i64 r.tv]) [(0, .cells [.view 1 0 (intRow fun _ => 0), .int .i64 (a + 1 + 1 + 1 + 1 + 1 + 1)] 28)]
  | _, _, _ => False
def zeroR : RW := ⟨[], [], 0, 0, 0⟩
def fillR (r : RW) (k j : Nat) : RW := if j < k then r else zeroR
def S_mn (r : RW) (n k : Nat) : St := ⟨[(4, .int .i64 n), (5, .ptr 0 0), (6, .own 1 n), (20, .own 1 n), (21, .int .i64 n), (22, .int .i64 k)],
  [(0, .cells [.str r.o, .str r.p, .int .i64 r.per, .int .i64 r.u, .int .i64 r.tv] 39), (1, .row 39 5 n (rwRow (fillR r k)) false)], 2, []⟩
def L_mn (n : Nat) : LSpec := fun st Q => ∃ r : RW, canonIs te 0 [4, 5, 6, 20, 21, 22] st (S_mn r n 0) ∧ r.Made ∧ n ≤ 100000 ∧
  Q (.exit 0) ⟨[(4, .int .i64 n), (5, .ptr 0 0), (6, .view 5 n (rwRow (fillR r n)))], [(0, .cells [.str r.o, .str r.p, .int .i64 r.per, .int .i64 r.u, .int .i64 r.tv] 39)], 2, []⟩
/-- Sums of the first k. -/
def sU (g : Nat → RW) : Nat → Int
  | 0 => 0
  | k + 1 => sU g k + (g k).u
def sT (g : Nat → RW) : Nat → Int
  | 0 => 0
  | k + 1 => sT g k + (g k).tv
def revR (g : Nat → RW) (c j : Nat) : RW := g (c - 1 - j)
def S_ad1 (g : Nat → RW) (c k : Nat) : St := ⟨[(4, .own 0 c), (5, .own 1 k), (6, .int .i64 (sU g k)), (7, .int .i64 (sT g k)), (22, .own 0 c), (23, .int .i64 c), (24, .int .i64 k)],
  [(0, .row 39 5 c (rwRow g) false), (1, .row 39 5 k (rwRow (revR g c)) false)], 2, []⟩
def L_ad1 : LSpec := fun st Q => ∃ (c : Nat) (g : Nat → RW), canonIs te 0 [4, 5, 6, 7, 22, 23, 24] (ownNil 5 39 5 st) (S_ad1 g c 0) ∧ c ≤ 14 ∧ (∀ i, i < c → (g i).Made) ∧
  Q (.exit 0) ⟨[(4, .own 0 c), (5, .own 1 c), (6, .int .i64 (sU g c)), (7, .int .i64 (sT g c))], [(0, .row 39 5 c (rwRow g) false), (1, .row 39 5 c (rwRow (revR g c)) false)], 2, []⟩
def S_ad2 (U T : Int) (L : List RW) (k : Nat) : St := ⟨[(6, .int .i64 (U - sU (atR L) k)), (7, .int .i64 (T - sT (atR L) k)), (10, .view 5 L.length (rwRow (atR L))), (71, .view 5 L.length (rwRow (atR L))), (72, .int .i64 L.length), (73, .int .i64 k)], [], 0, []⟩
def L_ad2 : LSpec := fun st Q => ∃ (U T : Int) (L : List RW), canonIs te 0 [6, 7, 10, 71, 72, 73] st (S_ad2 U T L 0) ∧ L.length ≤ 14 ∧ (0 ≤ U ∧ U ≤ 1000 ∧ 0 ≤ T ∧ T ≤ 100000) ∧ Asc keyC L ∧ (∀ r ∈ L, 0 ≤ r.u ∧ r.u ≤ 1000 ∧ 0 ≤ r.tv ∧ r.tv ≤ 100000) ∧
  Q (.exit 2) ⟨[(6, .int .i64 (U - sU (atR L) L.length)), (7, .int .i64 (T - sT (atR L) L.length))], [], 0, []⟩
end Go.Eng
