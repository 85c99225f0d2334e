/- Lemmas that the tied card of ProductValid is proved by. -/
import Derived.Test.YtnjaabibmgdeoaaDoorKi
/- A nil slice as an own row of no element. -/
namespace Go.Eng

def ownNil (d t sz : Nat) (s : St) : St := match lk s.T d with
  | some .nil => ⟨(d, .own s.nx 0) :: rm d s.T, (s.nx, .row t sz 0 (fun _ => []) false) :: s.O, s.nx + 1, []⟩
  | _ => s

theorem RepS.ownNil {C : Ctx} {E : Ent} {N : Nat} {s : St} {bs : Nat → Option Hd} {a : Act} {w : World} (d t sz : Nat) (h : RepS C E N s bs a w) : ∃ bs', RepS C E N (ownNil d t sz s) bs' a w := by
  unfold Eng.ownNil
  split
  · rename_i hd
    obtain ⟨T, O, nx, dec⟩ := s
    obtain ⟨⟨hF, hW⟩, hnx, hm⟩ := h
    have hn := hnx nx (Nat.le_refl _)
    have hb0 : bs nx = none := hn.2
    have hO0 : lk O nx = none := hn.1
    let bs' := up bs nx .nil
    have hbs : ∀ r x, bs r = some x → bs' r = some x := fun r x hx => by
      have : nx ≠ r := fun e => by subst e; rw [hb0] at hx; cases hx
      show up bs nx .nil r = some x
      rw [up_other _ _ _ this]; exact hx
    have hbk : ∀ r b c, bs' r = some (.blk b c) → bs r = some (.blk b c) := fun r b c hx => by
      by_cases hr : nx = r
      · subst hr
        have : up bs nx .nil nx = some (.blk b c) := hx
        rw [up_same] at this; cases this
      · have : up bs nx .nil r = some (.blk b c) := hx
        rwa [up_other _ _ _ hr] at this
    have hlk : ∀ r o, lk ((nx, AObj.row t sz 0 (fun _ => []) false) :: O) r = some o → (r = nx ∧ o = .row t sz 0 (fun _ => []) false) ∨ (r ≠ nx ∧ lk O r = some o) := fun r o ho => by
      rw [lk_cons] at ho
      split at ho
      · rename_i e
        have e' : nx = r := e
        simp only [Option.some.injEq] at ho
        exact .inl ⟨e'.symm, ho.symm⟩
      · rename_i e
        exact .inr ⟨fun e' => e e'.symm, ho⟩
    have hmb : ∀ b, mutB (lk ((nx, AObj.row t sz 0 (fun _ => []) false) :: O)) bs' b → mutB (lk O) bs b := by
      rintro b ⟨r, o, c, ho, hmu, hb⟩
      rcases hlk r o ho with ⟨rfl, rfl⟩ | ⟨hne, ho⟩
      · have := hbk _ _ _ hb
        rw [hb0] at this; cases this
      · exact ⟨r, o, c, ho, hmu, hbk _ _ _ hb⟩
    have hMB : ∀ b, MB E (lk ((nx, AObj.row t sz 0 (fun _ => []) false) :: O)) bs' b → MB E (lk O) bs b := fun b hb => hb.imp id (hmb b)
    have vm : ∀ {v : Value} {u : AV}, V w (MB E (lk O) bs) bs v u → V w (MB E (lk ((nx, AObj.row t sz 0 (fun _ => []) false) :: O)) bs') bs' v u := fun h =>
      h.step_ (fun b _ hb hb' => hb (hMB b hb')) (fun _ _ _ => rfl) (Nat.le_refl _) _ hbs
    have hS : Step w (MB E (lk O) bs) bs w (MB E (lk ((nx, AObj.row t sz 0 (fun _ => []) false) :: O)) bs') bs' := ⟨hbs, fun b _ hb hb' => hb (hMB b hb'), fun _ _ _ => rfl, Nat.le_refl _⟩
    refine ⟨bs', ⟨⟨hF.1, hF.2.1, fun i u hu => ?_⟩, ?_⟩, fun r hr => ?_, Nat.le_succ_of_le hm⟩
    · have hu' : lk ((d, AV.own nx 0) :: rm d T) i = some u := hu
      rw [lk_rm, lk_cons] at hu'
      split at hu'
      · rename_i e
        have e' : d = i := e
        subst e'
        simp only [Option.some.injEq] at hu'
        subst hu'
        obtain ⟨v, hv, hV⟩ := hF.2.2 d _ hd
        cases hV
        exact ⟨_, hv, .ownnil (up_same _ _ _) rfl⟩
      · obtain ⟨v, hv, hV⟩ := hF.2.2 i u hu'
        exact ⟨v, hv, vm hV⟩
    · exact {
        obj := fun r o ho => by
          rcases hlk r o ho with ⟨rfl, rfl⟩ | ⟨hne, ho⟩
          · exact .inl ⟨up_same _ _ _, rfl⟩
          · exact (hW.obj r o ho).step hS fun _ _ _ => rfl
        sep := fun r r' o1 o2 b c c' h1 h2 m1 m2 b1 b2 => by
          rcases hlk r o1 h1 with ⟨rfl, rfl⟩ | ⟨hne, h1⟩
          · have := hbk _ _ _ b1
            rw [hb0] at this; cases this
          · rcases hlk r' o2 h2 with ⟨rfl, rfl⟩ | ⟨hne', h2⟩
            · have := hbk _ _ _ b2
              rw [hb0] at this; cases this
            · exact hW.sep r r' o1 o2 b c c' h1 h2 m1 m2 (hbk _ _ _ b1) (hbk _ _ _ b2)
        out := fun b hb => hW.out b (hmb b hb)
        frz := fun r t' sz' n f b c ho hb hM => by
          rcases hlk r _ ho with ⟨rfl, h⟩ | ⟨hne, ho⟩
          · cases h
          · exact hW.frz r t' sz' n f b c ho (hbk _ _ _ hb) (hMB b hM)
        high := fun b hb => hW.high b (hMB b hb)
        lt := fun r b c hb => hW.lt r b c (hbk _ _ _ hb)
        outlt := hW.outlt
        keep := hW.keep
        old := fun b hb => hW.old b (hmb b hb)
        size := hW.size
        pre := fun r x hr hb => hbs r x (hW.pre r x hr hb)
        os := hW.os
        tape := hW.tape
        output := hW.output
        laid := hW.laid
        gle := hW.gle }
    · have hr' : nx + 1 ≤ r := hr
      obtain ⟨q1, q2⟩ := hnx r (show nx ≤ r by omega)
      refine ⟨?_, ?_⟩
      · show lk ((nx, AObj.row t sz 0 (fun _ => []) false) :: O) r = none
        rw [lk_cons]
        have : nx ≠ r := by omega
        simp [this, q1]
      · show up bs nx .nil r = none
        rw [up_other _ _ _ (by omega)]; exact q2
  · exact ⟨bs, h⟩

theorem AWP.ownNil {C : Ctx} {m N : Nat} {c : Code} {Q : Exit → St → Prop} {s : St} (d t sz : Nat) (h : AWP C m N c Q (Eng.ownNil d t sz s)) : AWP C m N c Q s := by
  intro E hE bs a w hr
  obtain ⟨bs', hr'⟩ := hr.ownNil d t sz
  exact h E hE bs' a w hr'

end Go.Eng

/- A loop whose inner loops' specifications depend on the state of the round. -/
namespace Go.Eng

theorem LoopOK.mkI {C : Ctx} {te : TE} (hte : Prg C te) {m N : Nat} {x : Code} {s : St} {Q : Exit → St → Prop} (calls : List (Nat × CSpec)) {ι : Type} (loops : ι → List (Nat × LSpec)) (fuel : Nat) (hc : CallsOK C calls) (ls : ι → List (Code × LSpec)) (hls : ∀ i, loopsOf (loops i) x = ls i) (hL : ∀ i, LoopsOK C m N (ls i))
    (F Fe Fr : List Nat) (S : ι → St) (I : ι → Prop) (μ : ι → Nat) (i0 : ι) (hI : I i0)
    (h0 : canonIs te m F s (S i0)) (round : ∀ i, I i → roundP ⟨te, calls, loops i, m, N, fuel⟩ x F Fe Fr S (fun i' => I i' ∧ μ i' < μ i) Q (S i)) (hS : ∀ i, rowVC (S i).O True := by intro i; trivial) : AWP C m N (.loop x) Q s := by
  obtain ⟨ρ0, hw⟩ := canonIs_weak h0 (rowVC_elim (hS i0)).1
  have key : AWP C m N (.loop x) (Eng.canQ te m Fe Fr Q) s := by
    refine AWP.loop S I μ i0 hI hw fun i hi => ?_
    have hG : EnvOK C ⟨te, calls, loops i, m, N, fuel⟩ := ⟨hte.ok, hte.one, hc⟩
    refine (wpC_ok hG x _ _ (by rw [hls i]; exact (hL i).all) (round i hi)).mono fun e s hq => thenA_mono (fun s hs => ?_) e s hq
    obtain ⟨i', h3, h1, h2⟩ := hs
    obtain ⟨ρ, hw'⟩ := canonIs_weak h3 (rowVC_elim (hS i')).1
    exact ⟨i', ρ, h1, h2, hw'⟩
  exact key.canQ

end Go.Eng

/- A nil slice in a cell as an own row of no element. -/
namespace Go.Eng

def isNilAt (cs : List AV) (j : Nat) : Bool := match cs[j]? with
  | some .nil => true
  | _ => false
def ownNilC (r j t sz : Nat) (s : St) : St := match lk s.O r with
  | some (.cells cs ct) => match isNilAt cs j with
    | true => ⟨s.T, (s.nx, .row t sz 0 (fun _ => []) false) :: (r, .cells (cs.set j (.own s.nx 0)) ct) :: rm r s.O, s.nx + 1, []⟩
    | false => s
  | _ => s

theorem RepS.ownNilC {C : Ctx} {E : Ent} {N : Nat} {s : St} {bs : Nat → Option Hd} {a : Act} {w : World} (r0 j0 t sz : Nat) (h : RepS C E N s bs a w) : ∃ bs', RepS C E N (ownNilC r0 j0 t sz s) bs' a w := by
  unfold Eng.ownNilC
  split
  · rename_i cs ct hd
    split
    · rename_i hnil
      have hnil : cs[j0]? = some .nil := by
        unfold isNilAt at hnil
        split at hnil
        · assumption
        · cases hnil
      obtain ⟨T, O, nx, dec⟩ := s
      obtain ⟨⟨hF, hW⟩, hnx, hm⟩ := h
      have hn := hnx nx (Nat.le_refl _)
      have hb0 : bs nx = none := hn.2
      have hO0 : lk O nx = none := hn.1
      have hd : lk O r0 = some (.cells cs ct) := hd
      have hne0 : r0 ≠ nx := fun e => by subst e; rw [hO0] at hd; cases hd
      let bs' := up bs nx .nil
      let O' : List (Nat × AObj) := (nx, AObj.row t sz 0 (fun _ => []) false) :: (r0, .cells (cs.set j0 (.own nx 0)) ct) :: rm r0 O
      have hbs : ∀ r x, bs r = some x → bs' r = some x := fun r x hx => by
        have : nx ≠ r := fun e => by subst e; rw [hb0] at hx; cases hx
        show up bs nx .nil r = some x
        rw [up_other _ _ _ this]; exact hx
      have hbk : ∀ r b c, bs' r = some (.blk b c) → bs r = some (.blk b c) := fun r b c hx => by
        by_cases hr : nx = r
        · subst hr
          have : up bs nx .nil nx = some (.blk b c) := hx
          rw [up_same] at this; cases this
        · have : up bs nx .nil r = some (.blk b c) := hx
          rwa [up_other _ _ _ hr] at this
      have hlk : ∀ r o, lk O' r = some o → (r = nx ∧ o = .row t sz 0 (fun _ => []) false) ∨ (r ≠ nx ∧ r = r0 ∧ o = .cells (cs.set j0 (.own nx 0)) ct) ∨ (r ≠ nx ∧ lk O r = some o) := fun r o ho => by
        have ho : lk ((nx, AObj.row t sz 0 (fun _ => []) false) :: (r0, .cells (cs.set j0 (.own nx 0)) ct) :: rm r0 O) r = some o := ho
        rw [lk_cons] at ho
        split at ho
        · rename_i e
          have e' : nx = r := e
          simp only [Option.some.injEq] at ho
          exact .inl ⟨e'.symm, ho.symm⟩
        · rename_i e
          rw [lk_rm, lk_cons] at ho
          split at ho
          · rename_i e2
            have e2' : r0 = r := e2
            simp only [Option.some.injEq] at ho
            exact .inr (.inl ⟨fun e' => e e'.symm, e2'.symm, ho.symm⟩)
          · exact .inr (.inr ⟨fun e' => e e'.symm, ho⟩)
      have hold : ∀ r o, lk O' r = some o → r ≠ nx → ∃ o', lk O r = some o' ∧ o'.mut = o.mut := fun r o ho hr => by
        rcases hlk r o ho with ⟨h1, _⟩ | ⟨_, rfl, rfl⟩ | ⟨_, h2⟩
        · exact absurd h1 hr
        · exact ⟨_, hd, rfl⟩
        · exact ⟨_, h2, rfl⟩
      have hmb : ∀ b, mutB (lk O') bs' b → mutB (lk O) bs b := by
        rintro b ⟨r, o, c, ho, hmu, hb⟩
        have hr : r ≠ nx := fun e => by
          subst e
          have := hbk _ _ _ hb
          rw [hb0] at this; cases this
        obtain ⟨o', h1, h2⟩ := hold r o ho hr
        exact ⟨r, o', c, h1, h2.trans hmu, hbk _ _ _ hb⟩
      have hMB : ∀ b, MB E (lk O') bs' b → MB E (lk O) bs b := fun b hb => hb.imp id (hmb b)
      have vm : ∀ {v : Value} {u : AV}, V w (MB E (lk O) bs) bs v u → V w (MB E (lk O') bs') bs' v u := fun h =>
        h.step_ (fun b _ hb hb' => hb (hMB b hb')) (fun _ _ _ => rfl) (Nat.le_refl _) _ hbs
      have hS : Step w (MB E (lk O) bs) bs w (MB E (lk O') bs') bs' := ⟨hbs, fun b _ hb hb' => hb (hMB b hb'), fun _ _ _ => rfl, Nat.le_refl _⟩
      refine ⟨bs', ⟨⟨hF.1, hF.2.1, fun i u hu => ?_⟩, ?_⟩, fun r hr => ?_, Nat.le_succ_of_le hm⟩
      · obtain ⟨v, hv, hV⟩ := hF.2.2 i u hu
        exact ⟨v, hv, vm hV⟩
      · exact {
          obj := fun r o ho => by
            rcases hlk r o ho with ⟨rfl, rfl⟩ | ⟨hne, rfl, rfl⟩ | ⟨hne, ho⟩
            · exact .inl ⟨up_same _ _ _, rfl⟩
            · obtain ⟨b, c, vs, q1, q2, q3, q4, q5⟩ := hW.obj r _ hd
              refine ⟨b, c, vs, hbs _ _ q1, q2, by rw [List.length_set]; exact q3, q4, fun j v u hv hu => ?_⟩
              by_cases hj : j0 = j
              · subst hj
                have hlt : j0 < cs.length := by
                  rcases Nat.lt_or_ge j0 cs.length with h | h
                  · exact h
                  · rw [List.getElem?_eq_none h] at hnil; cases hnil
                rw [List.getElem?_set_self hlt] at hu
                obtain rfl := Option.some.inj hu
                have hV := q5 j0 v _ hv hnil
                cases hV
                exact .ownnil (up_same _ _ _) rfl
              · rw [List.getElem?_set_ne hj] at hu
                exact vm (q5 j v u hv hu)
            · exact (hW.obj r o ho).step hS fun _ _ _ => rfl
          sep := fun r r' o1 o2 b c c' h1 h2 m1 m2 b1 b2 => by
            have hr : r ≠ nx := fun e => by
              subst e
              have := hbk _ _ _ b1
              rw [hb0] at this; cases this
            have hr' : r' ≠ nx := fun e => by
              subst e
              have := hbk _ _ _ b2
              rw [hb0] at this; cases this
            obtain ⟨o1', p1, p2⟩ := hold r o1 h1 hr
            obtain ⟨o2', p3, p4⟩ := hold r' o2 h2 hr'
            exact hW.sep r r' o1' o2' b c c' p1 p3 (p2.trans m1) (p4.trans m2) (hbk _ _ _ b1) (hbk _ _ _ b2)
          out := fun b hb => hW.out b (hmb b hb)
          frz := fun r t' sz' n f b c ho hb hM => by
            rcases hlk r _ ho with ⟨rfl, h⟩ | ⟨hne, rfl, h⟩ | ⟨hne, ho⟩
            · cases h
            · cases h
            · exact hW.frz r t' sz' n f b c ho (hbk _ _ _ hb) (hMB b hM)
          high := fun b hb => hW.high b (hMB b hb)
          lt := fun r b c hb => hW.lt r b c (hbk _ _ _ hb)
          outlt := hW.outlt
          keep := hW.keep
          old := fun b hb => hW.old b (hmb b hb)
          size := hW.size
          pre := fun r x hr hb => hbs r x (hW.pre r x hr hb)
          os := hW.os
          tape := hW.tape
          output := hW.output
          laid := hW.laid
          gle := hW.gle }
      · have hr' : nx + 1 ≤ r := hr
        obtain ⟨q1, q2⟩ := hnx r (show nx ≤ r by omega)
        refine ⟨?_, ?_⟩
        · show lk O' r = none
          cases ho : lk O' r with
          | none => rfl
          | some o =>
            obtain ⟨o', p1, _⟩ := hold r o ho (by omega)
            rw [q1] at p1; cases p1
        · show up bs nx .nil r = none
          rw [up_other _ _ _ (by omega)]; exact q2
    · exact ⟨bs, h⟩
  · exact ⟨bs, h⟩

theorem AWP.ownNilC {C : Ctx} {m N : Nat} {c : Code} {Q : Exit → St → Prop} {s : St} (r j t sz : Nat) (h : AWP C m N c Q (Eng.ownNilC r j t sz s)) : AWP C m N c Q s := by
  intro E hE bs a w hr
  obtain ⟨bs', hr'⟩ := hr.ownNilC r j t sz
  exact h E hE bs' a w hr'

theorem rowsEqR : ∀ O : List (Nat × AObj), RowsEq O O
  | [] => trivial
  | (r, o) :: l => by
    have ih := rowsEqR l
    cases o
    case row => exact ⟨⟨rfl, rfl, rfl, rfl, rfl, fun _ _ => rfl⟩, ih⟩
    all_goals exact ⟨rfl, ih⟩

/-- The nil slice in the cell j behind the pointer in slot d. -/
def ownNilP (d j t sz : Nat) (s : St) : St := match lk s.T d with
  | some (.ptr r i) => Eng.ownNilC r (i + j) t sz s
  | _ => s
theorem AWP.ownNilP {C : Ctx} {m N : Nat} {c : Code} {Q : Exit → St → Prop} {s : St} (d j t sz : Nat) (h : AWP C m N c Q (Eng.ownNilP d j t sz s)) : AWP C m N c Q s := by
  unfold Eng.ownNilP at h
  split at h
  · exact AWP.ownNilC _ _ t sz h
  · exact h

end Go.Eng

