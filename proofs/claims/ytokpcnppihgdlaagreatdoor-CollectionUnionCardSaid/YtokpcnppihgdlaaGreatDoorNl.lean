/- Lemmas that the tied card of CollectionUnion is proved by. -/
import Derived.Test.YtokpcnppihgdlaaGreatDoorNk
/- The weakest precondition as a function: its use. -/
namespace Go.Eng

theorem condP_dec {p : Prop} [Decidable p] {P Q : Prop} (h1 : p → P) (h2 : ¬ p → Q) : condP (decide p) P Q := condP_intro (fun h => h1 (of_decide_eq_true h)) (fun h => h2 (of_decide_eq_false h))
theorem condP_ndec {p : Prop} [Decidable p] {P Q : Prop} (h1 : ¬ p → P) (h2 : p → Q) : condP (!decide p) P Q := by
  by_cases h : p
  · rw [decide_eq_true h]; exact h2 h
  · rw [decide_eq_false h]; exact h1 h
theorem condP_not {b : Bool} {P Q : Prop} (h1 : b = false → P) (h2 : b = true → Q) : condP (!b) P Q := by
  cases b with
  | true => exact h2 rfl
  | false => exact h1 rfl

def LoopOK (C : Ctx) (m N : Nat) (c : Code) (L : LSpec) : Prop := ∀ s Q, L s Q → AWP C m N c Q s

def LoopsOK (C : Ctx) (m N : Nat) : List (Code × LSpec) → Prop
  | [] => True
  | (c, L) :: l => LoopOK C m N c L ∧ LoopsOK C m N l

theorem LoopsOK.all {C : Ctx} {m N : Nat} : ∀ {l : List (Code × LSpec)}, LoopsOK C m N l → ∀ p ∈ l, ∀ s Q, p.2 s Q → AWP C m N p.1 Q s
  | [], _, p, hp => by simp at hp
  | (c, L) :: l, h, p, hp => by
    rcases List.mem_cons.1 hp with rfl | hp
    · exact h.1
    · exact LoopsOK.all h.2 p hp

theorem loopsOf_nil : ∀ c : Code, loopsOf [] c = []
  | .seq x y => by simp [loopsOf, loopsOf_nil x, loopsOf_nil y]
  | .block _ x => by simp [loopsOf, loopsOf_nil x]
  | .cond _ x y => by simp [loopsOf, loopsOf_nil x, loopsOf_nil y]
  | .loop x => by simp [loopsOf, lk, loopsOf_nil x]
  | .skip => rfl
  | .region _ _ _ => by simp [loopsOf, lk]
  | .rangeFunc _ _ _ _ => rfl
  | .exit _ => rfl
  | .scope x => by simp [loopsOf, loopsOf_nil x]
  | .label _ => rfl
  | .goto _ => rfl
  | .ret => rfl
  | .refuse _ => rfl

/-- The program, its types, its name. -/
structure Prg (C : Ctx) (te : TE) : Prop where
  ok : TE.ok C.P te
  one : ∀ t ti, lk te t = some ti → isAggD ti.desc = false → ti.sz = 1

def CallsOK (C : Ctx) (calls : List (Nat × CSpec)) : Prop := ∀ f S, lk calls f = some S → CSpecOK C f S
theorem CallsOK.nil {C : Ctx} : CallsOK C [] := calls_nil
theorem CallsOK.cons {C : Ctx} {f : Nat} {S : CSpec} {l : List (Nat × CSpec)} (h : CSpecOK C f S) (hl : CallsOK C l) : CallsOK C ((f, S) :: l) := calls_cons h hl

/-- Without loops, or with loops that are run. -/
theorem SpecOK.wp0 {C : Ctx} {te : TE} (hte : Prg C te) (calls : List (Nat × CSpec)) (fuel : Nat) (hc : CallsOK C calls) {f : FuncId} {fn : Func} {args : List AV} {objs : List AObj} {U : AV} {Os : List (Nat × AObj)}
    (hf : C.P.funcs[f]? = some fn) (hb : fn.body.isSome = true) (hname : (fn.name == "runtime.NumGoroutine") = false) (hl : Nat.ble args.length fn.ntmps = true)
    (h : wpFn te calls [] fuel fn args objs (fun u O => u = U ∧ O = Os)) : ADet C f args objs U Os :=
  ACalls.wp hte.ok hte.one hc hf hb hname hl (by rw [loopsOf_nil]; intro p hp; simp at hp) h

/-- Whatever is promised. -/
theorem RSpecOK.wpL {C : Ctx} {te : TE} (hte : Prg C te) (calls : List (Nat × CSpec)) (loops : List (Nat × LSpec)) (fuel : Nat) (hc : CallsOK C calls) {f : FuncId} {fn : Func} {args : List AV} {objs : List AObj} {R : AV → List (Nat × AObj) → Prop}
    (hf : C.P.funcs[f]? = some fn) (hb : fn.body.isSome = true) (hname : (fn.name == "runtime.NumGoroutine") = false) (hl : Nat.ble args.length fn.ntmps = true)
    (ls : List (Code × LSpec)) (hls : loopsOf loops (bodyC fn) = ls) (hL : LoopsOK C objs.length fn.ntmps ls)
    (h : wpFn te calls loops fuel fn args objs R) : ACalls C f args objs R :=
  ACalls.wp hte.ok hte.one hc hf hb hname hl (by rw [hls]; exact hL.all) h

/-- With loops that have promises. -/
theorem SpecOK.wpL {C : Ctx} {te : TE} (hte : Prg C te) (calls : List (Nat × CSpec)) (loops : List (Nat × LSpec)) (fuel : Nat) (hc : CallsOK C calls) {f : FuncId} {fn : Func} {args : List AV} {objs : List AObj} {U : AV} {Os : List (Nat × AObj)}
    (hf : C.P.funcs[f]? = some fn) (hb : fn.body.isSome = true) (hname : (fn.name == "runtime.NumGoroutine") = false) (hl : Nat.ble args.length fn.ntmps = true)
    (ls : List (Code × LSpec)) (hls : loopsOf loops (bodyC fn) = ls) (hL : LoopsOK C objs.length fn.ntmps ls)
    (h : wpFn te calls loops fuel fn args objs (fun u O => u = U ∧ O = Os)) : ADet C f args objs U Os :=
  ACalls.wp hte.ok hte.one hc hf hb hname hl (by rw [hls]; exact hL.all) h

/-- The ways out of a loop, with some slots alone: behind a break (or the test), at a return. -/
def canQ (te : TE) (m : Nat) (Fe Fr : List Nat) (Q : Exit → St → Prop) : Exit → St → Prop
  | .ret, s => match canon te m Fr s with
    | some s' => rowVC s'.O (rowR s'.O fun O' => Q .ret ⟨s'.T, O', s'.nx, []⟩)
    | none => False
  | e, s => match canon te m Fe s with
    | some s' => rowVC s'.O (rowR s'.O fun O' => Q e ⟨s'.T, O', s'.nx, []⟩)
    | none => False

theorem canQ_weak {te : TE} {m : Nat} {Fe Fr : List Nat} {Q : Exit → St → Prop} {e : Exit} {s : St} (h : canQ te m Fe Fr Q e s) : ∃ ρ s', Weak m ρ s s' ∧ Q e s' := by
  have key : ∀ F, (match canon te m F s with
    | some s' => rowVC s'.O (rowR s'.O fun O' => Q e ⟨s'.T, O', s'.nx, []⟩)
    | none => False) → ∃ ρ s', Weak m ρ s s' ∧ Q e s' := by
    intro F h
    split at h
    · rename_i s' hs
      obtain ⟨hv, h⟩ := rowVC_elim h
      obtain ⟨T, O, nx, dec⟩ := s
      unfold canon at hs
      dsimp only at hs
      split at hs
      · rename_i hr
        split at hs
        · rename_i T' O' hcT hcO
          simp only [Option.some.injEq] at hs
          subst hs
          obtain ⟨O2, hb, hQ⟩ := rowR_back (canO_back (ren_num (closeR_ndB _ _ _ _)) hcO hv) h
          exact ⟨_, _, Weak.of _ hr (canT_le hcT) hb (Nat.le_add_right _ _), hQ⟩
        · cases hs
      · cases hs
    · exact h.elim
  unfold canQ at h
  split at h
  · exact key _ h
  · exact key _ h

theorem canQ_of {te : TE} {m : Nat} {Fe Fr : List Nat} {Q : Exit → St → Prop} {e : Exit} {s s' : St} (he : e ≠ .ret) (hs : canon te m Fe s = some s') (h : rowVC s'.O (rowR s'.O fun O' => Q e ⟨s'.T, O', s'.nx, []⟩)) : canQ te m Fe Fr Q e s := by
  unfold canQ
  split
  · exact absurd rfl he
  · rw [hs]; exact h

theorem AWP.canQ {C : Ctx} {te : TE} {m N : Nat} {c : Code} {Fe Fr : List Nat} {Q : Exit → St → Prop} {s : St} (h : AWP C m N c (Eng.canQ te m Fe Fr Q) s) : AWP C m N c Q s := by
  intro E hE bs a w hr
  subst hE
  refine wp_mono (h E rfl bs a w hr) ?_
  rintro e a w ⟨s', bs', hq, hr'⟩
  obtain ⟨ρ, s2, hw, hQ⟩ := canQ_weak hq
  obtain ⟨bs2, hr2, _⟩ := hr'.weak hw
  exact ⟨s2, bs2, hQ, hr2⟩

/-- A round of a loop: behind it the next index (P), or a way out. -/
def roundP (G : Env) (x : Code) (F Fe Fr : List Nat) {ι : Type} (S : ι → St) (P : ι → Prop) (Q : Exit → St → Prop) (s : St) : Prop :=
  wpC G x (thenA (fun s' => ∃ i', canonIs G.te G.m F s' (S i') ∧ P i') (Eng.canQ G.te G.m Fe Fr Q)) s

/-- A loop without loops of its own that have promises. -/
theorem LoopOK.mk {C : Ctx} {te : TE} (hte : Prg C te) {m N : Nat} {x : Code} {s : St} {Q : Exit → St → Prop} (calls : List (Nat × CSpec)) (fuel : Nat) (hc : CallsOK C calls) (F Fe Fr : List Nat) {ι : Type} (S : ι → St) (I : ι → Prop) (μ : ι → Nat) (i0 : ι) (hI : I i0)
    (h0 : canonIs te m F s (S i0)) (round : ∀ i, I i → roundP ⟨te, calls, [], m, N, fuel⟩ x F Fe Fr S (fun i' => I i' ∧ μ i' < μ i) Q (S i)) (hS : ∀ i, rowVC (S i).O True := by intro i; trivial) : AWP C m N (.loop x) Q s :=
  (AWP.loopF (G := ⟨te, calls, [], m, N, fuel⟩) (Q := Eng.canQ te m Fe Fr Q) ⟨hte.ok, hte.one, hc⟩ F S I μ i0 hI hS h0 (by rw [loopsOf_nil]; intro p hp; simp at hp) fun i hi => round i hi).canQ

theorem LoopOK.mkL {C : Ctx} {te : TE} (hte : Prg C te) {m N : Nat} {x : Code} {s : St} {Q : Exit → St → Prop} (calls : List (Nat × CSpec)) (loops : List (Nat × LSpec)) (fuel : Nat) (hc : CallsOK C calls) (ls : List (Code × LSpec)) (hls : loopsOf loops x = ls) (hL : LoopsOK C m N ls)
    (F Fe Fr : List Nat) {ι : Type} (S : ι → St) (I : ι → Prop) (μ : ι → Nat) (i0 : ι) (hI : I i0)
    (h0 : canonIs te m F s (S i0)) (round : ∀ i, I i → roundP ⟨te, calls, loops, m, N, fuel⟩ x F Fe Fr S (fun i' => I i' ∧ μ i' < μ i) Q (S i)) (hS : ∀ i, rowVC (S i).O True := by intro i; trivial) : AWP C m N (.loop x) Q s :=
  (AWP.loopF (G := ⟨te, calls, loops, m, N, fuel⟩) (Q := Eng.canQ te m Fe Fr Q) ⟨hte.ok, hte.one, hc⟩ F S I μ i0 hI hS h0 (by rw [hls]; exact hL.all) fun i hi => round i hi).canQ

end Go.Eng
/- A nil slice as an own row of no element. -/
namespace Go.Eng

def ownNil (d t sz : Nat) (s : St) : St := match lk s.T d with
  | some .nil => ⟨(d, .own s.nx 0) :: rm d s.T, (s.nx, .row t sz 0 (fun _ => []) false) :: s.O, s.nx + 1, []⟩
  | _ => s

theorem RepS.ownNil {C : Ctx} {E : Ent} {N : Nat} {s : St} {bs : Nat → Option Hd} {a : Act} {w : World} (d t sz : Nat) (h : RepS C E N s bs a w) : ∃ bs', RepS C E N (ownNil d t sz s) bs' a w := by
  unfold Eng.ownNil
  split
  · rename_i hd
    obtain ⟨T, O, nx, dec⟩ := s
    obtain ⟨⟨hF, hW⟩, hnx, hm⟩ := h
    have hn := hnx nx (Nat.le_refl _)
    have hb0 : bs nx = none := hn.2
    have hO0 : lk O nx = none := hn.1
    let bs' := up bs nx .nil
    have hbs : ∀ r x, bs r = some x → bs' r = some x := fun r x hx => by
      have : nx ≠ r := fun e => by subst e; rw [hb0] at hx; cases hx
      show up bs nx .nil r = some x
      rw [up_other _ _ _ this]; exact hx
    have hbk : ∀ r b c, bs' r = some (.blk b c) → bs r = some (.blk b c) := fun r b c hx => by
      by_cases hr : nx = r
      · subst hr
        have : up bs nx .nil nx = some (.blk b c) := hx
        rw [up_same] at this; cases this
      · have : up bs nx .nil r = some (.blk b c) := hx
        rwa [up_other _ _ _ hr] at this
    have hlk : ∀ r o, lk ((nx, AObj.row t sz 0 (fun _ => []) false) :: O) r = some o → (r = nx ∧ o = .row t sz 0 (fun _ => []) false) ∨ (r ≠ nx ∧ lk O r = some o) := fun r o ho => by
      rw [lk_cons] at ho
      split at ho
      · rename_i e
        have e' : nx = r := e
        simp only [Option.some.injEq] at ho
        exact .inl ⟨e'.symm, ho.symm⟩
      · rename_i e
        exact .inr ⟨fun e' => e e'.symm, ho⟩
    have hmb : ∀ b, mutB (lk ((nx, AObj.row t sz 0 (fun _ => []) false) :: O)) bs' b → mutB (lk O) bs b := by
      rintro b ⟨r, o, c, ho, hmu, hb⟩
      rcases hlk r o ho with ⟨rfl, rfl⟩ | ⟨hne, ho⟩
      · have := hbk _ _ _ hb
        rw [hb0] at this; cases this
      · exact ⟨r, o, c, ho, hmu, hbk _ _ _ hb⟩
    have hMB : ∀ b, MB E (lk ((nx, AObj.row t sz 0 (fun _ => []) false) :: O)) bs' b → MB E (lk O) bs b := fun b hb => hb.imp id (hmb b)
    have vm : ∀ {v : Value} {u : AV}, V w (MB E (lk O) bs) bs v u → V w (MB E (lk ((nx, AObj.row t sz 0 (fun _ => []) false) :: O)) bs') bs' v u := fun h =>
      h.step_ (fun b _ hb hb' => hb (hMB b hb')) (fun _ _ _ => rfl) (Nat.le_refl _) _ hbs
    have hS : Step w (MB E (lk O) bs) bs w (MB E (lk ((nx, AObj.row t sz 0 (fun _ => []) false) :: O)) bs') bs' := ⟨hbs, fun b _ hb hb' => hb (hMB b hb'), fun _ _ _ => rfl, Nat.le_refl _⟩
    refine ⟨bs', ⟨⟨hF.1, hF.2.1, fun i u hu => ?_⟩, ?_⟩, fun r hr => ?_, Nat.le_succ_of_le hm⟩
    · have hu' : lk ((d, AV.own nx 0) :: rm d T) i = some u := hu
      rw [lk_rm, lk_cons] at hu'
      split at hu'
      · rename_i e
        have e' : d = i := e
        subst e'
        simp only [Option.some.injEq] at hu'
        subst hu'
        obtain ⟨v, hv, hV⟩ := hF.2.2 d _ hd
        cases hV
        exact ⟨_, hv, .ownnil (up_same _ _ _) rfl⟩
      · obtain ⟨v, hv, hV⟩ := hF.2.2 i u hu'
        exact ⟨v, hv, vm hV⟩
    · exact {
        obj := fun r o ho => by
          rcases hlk r o ho with ⟨rfl, rfl⟩ | ⟨hne, ho⟩
          · exact .inl ⟨up_same _ _ _, rfl⟩
          · exact (hW.obj r o ho).step hS fun _ _ _ => rfl
        sep := fun r r' o1 o2 b c c' h1 h2 m1 m2 b1 b2 => by
          rcases hlk r o1 h1 with ⟨rfl, rfl⟩ | ⟨hne, h1⟩
          · have := hbk _ _ _ b1
            rw [hb0] at this; cases this
          · rcases hlk r' o2 h2 with ⟨rfl, rfl⟩ | ⟨hne', h2⟩
            · have := hbk _ _ _ b2
              rw [hb0] at this; cases this
            · exact hW.sep r r' o1 o2 b c c' h1 h2 m1 m2 (hbk _ _ _ b1) (hbk _ _ _ b2)
        out := fun b hb => hW.out b (hmb b hb)
        frz := fun r t' sz' n f b c ho hb hM => by
          rcases hlk r _ ho with ⟨rfl, h⟩ | ⟨hne, ho⟩
          · cases h
          · exact hW.frz r t' sz' n f b c ho (hbk _ _ _ hb) (hMB b hM)
        high := fun b hb => hW.high b (hMB b hb)
        lt := fun r b c hb => hW.lt r b c (hbk _ _ _ hb)
        outlt := hW.outlt
        keep := hW.keep
        old := fun b hb => hW.old b (hmb b hb)
        size := hW.size
        pre := fun r x hr hb => hbs r x (hW.pre r x hr hb)
        os := hW.os
        tape := hW.tape
        output := hW.output
        laid := hW.laid
        gle := hW.gle }
    · have hr' : nx + 1 ≤ r := hr
      obtain ⟨q1, q2⟩ := hnx r (show nx ≤ r by omega)
      refine ⟨?_, ?_⟩
      · show lk ((nx, AObj.row t sz 0 (fun _ => []) false) :: O) r = none
        rw [lk_cons]
        have : nx ≠ r := by omega
        simp [this, q1]
      · show up bs nx .nil r = none
        rw [up_other _ _ _ (by omega)]; exact q2
  · exact ⟨bs, h⟩

theorem AWP.ownNil {C : Ctx} {m N : Nat} {c : Code} {Q : Exit → St → Prop} {s : St} (d t sz : Nat) (h : AWP C m N c Q (Eng.ownNil d t sz s)) : AWP C m N c Q s := by
  intro E hE bs a w hr
  obtain ⟨bs', hr'⟩ := hr.ownNil d t sz
  exact h E hE bs' a w hr'

end Go.Eng
