/- Lemmas that the tied card of ScannerValid is proved by. -/
import Derived.Test.YtokpcnppihgdlaaGreatDoorGe
/- The engine, part 19: what an operation gives depends on what it looks at alone. -/
namespace Go.Eng

def Sub {α : Type} (f g : Nat → Option α) : Prop := ∀ i x, f i = some x → g i = some x

theorem Sub.refl {α : Type} (f : Nat → Option α) : Sub f f := fun _ _ h => h

section
variable {T T' : Nat → Option AV} {O O' : Nat → Option AObj} (hT : Sub T T') (hO : Sub O O') {te : TE}

include hT in
theorem evO_mono {x : Operand} {u : AV} (h : evO T x = some u) : evO T' x = some u := by
  cases x with
  | tmp t => exact hT t u h
  | _ => exact h

include hT in
theorem evL_mono : ∀ {l : List Operand} {r : List AV}, evL T l = some r → evL T' l = some r
  | [], r, h => h
  | x :: l, r, h => by
    simp only [evL] at h ⊢
    split at h
    · rename_i u hu
      rw [evO_mono hT hu]
      split at h
      · rename_i r' hr
        simp only [evL_mono hr]
        exact h
      · cases h
    · cases h

include hT in
theorem fillA_mono {place : Nat → Option (Nat × Nat)} : ∀ {ps : List (Nat × Operand)} {cs r : List AV}, fillA T place cs ps = some r → fillA T' place cs ps = some r
  | [], cs, r, h => h
  | (i, x) :: l, cs, r, h => by
    simp only [fillA] at h ⊢
    split at h
    · rename_i off sz hp
      split at h
      · rename_i u hu
        rw [evO_mono hT hu]
        split at h
        · split at h
          · split at h
            · simp only [*]
              exact fillA_mono h
            · cases h
          · cases h
        · cases h
      · cases h
    · cases h

include hT in
theorem buildA_mono {t : TypeId} {ps : List (Nat × Operand)} {u : AV} (h : buildA te T t ps = some u) : buildA te T' t ps = some u := by
  unfold buildA at h ⊢
  split at h
  · split at h
    · split at h
      · split at h
        · split at h
          · rename_i hf
            simp only [*, fillA_mono hT hf]
          · cases h
        · cases h
      · split at h
        · split at h
          · rename_i hf
            simp only [*, fillA_mono hT hf]
          · cases h
        · cases h
      · cases h
    · cases h
  · cases h

include hO in
theorem ptrCells_mono {u : AV} {g : List AV × Prop} (h : ptrCells O u = some g) : ptrCells O' u = some g := by
  unfold ptrCells at h ⊢
  split at h
  · split at h
    · rename_i hr; simp only [hO _ _ hr]; exact h
    · cases h
  · split at h
    · rename_i hr; simp only [hO _ _ hr]; exact h
    · cases h
  · exact h
  · cases h

include hO in
theorem loadA_mono {t : TypeId} {u : AV} {r : AV × Prop} (h : loadA te O t u = some r) : loadA te O' t u = some r := by
  unfold loadA at h ⊢
  split at h
  · split at h
    · rename_i hp
      simp only [*, ptrCells_mono hO hp]
    · cases h
  · cases h

include hO in
theorem srcA_mono {sz : Nat} {u : AV} {r : Nat × (Nat → List AV) × Prop} (h : srcA O sz u = some r) : srcA O' sz u = some r := by
  unfold srcA at h ⊢
  split at h
  · exact h
  · split at h
    · rename_i hr; simp only [hO _ _ hr]; exact h
    · cases h
  · split at h
    · rename_i hr; simp only [hO _ _ hr]; exact h
    · cases h
  · exact h
  · exact h
  · cases h

include hO in
theorem appA_mono {fresh : Nat} {e : TypeId} {tie : TI} {m : Nat} {g : Nat → List AV} {vc : Prop} {s : AV} {r : AV × List (Nat × AObj) × Prop} (h : appA O fresh e tie m g vc s = some r) : appA O' fresh e tie m g vc s = some r := by
  unfold appA at h ⊢
  split at h
  · split at h
    · rename_i hr; simp only [hO _ _ hr]; exact h
    · cases h
  · exact h
  · exact h
  · cases h

/-- An option that is looked into: where it gives something, so does the larger one. -/
theorem bind_mono {α β : Type} {x x' : Option α} {f f' : α → Option β} {r : β} (h : x.bind f = some r) (h1 : ∀ u, x = some u → x' = some u) (h2 : ∀ u, f u = some r → f' u = some r) : x'.bind f' = some r := by
  cases x with
  | none => cases h
  | some u => rw [h1 u rfl]; exact h2 u h

include hT hO in
theorem evalPure_mono {op : Op} {r : AV × Prop} (h : evalPure te T O op = some r) : evalPure te T' O' op = some r := by
  have e1 : ∀ {x u}, evO T x = some u → evO T' x = some u := fun h => evO_mono hT h
  have e2 : ∀ {l r}, evL T l = some r → evL T' l = some r := fun h => evL_mono hT h
  have e3 : ∀ {t u r}, loadA te O t u = some r → loadA te O' t u = some r := fun h => loadA_mono hO h
  have e4 : ∀ {t ps u}, buildA te T t ps = some u → buildA te T' t ps = some u := fun h => buildA_mono hT h
  unfold evalPure at h ⊢
  split at h
  all_goals (try simp only [] at h ⊢)
  all_goals (repeat' (split at h))
  all_goals (try (cases h; done))
  all_goals (try (exact h))
  all_goals (try (grind; done))
  all_goals (try (simp only [*]; done))
  all_goals (try (simp only [*] at h ⊢; done))
  all_goals (try (simp only [*] at h ⊢; exact h))

include hT hO in
theorem evalEff_mono {fresh : Nat} {op : Op} {r : AV × List (Nat × AObj) × Prop} (h : evalEff te T O fresh op = some r) : evalEff te T' O' fresh op = some r := by
  have e1 : ∀ {x u}, evO T x = some u → evO T' x = some u := fun h => evO_mono hT h
  have e2 : ∀ {l r}, evL T l = some r → evL T' l = some r := fun h => evL_mono hT h
  have e3 : ∀ {pl ps cs r}, fillA T pl cs ps = some r → fillA T' pl cs ps = some r := fun h => fillA_mono hT h
  have e4 : ∀ {r o}, O r = some o → O' r = some o := fun h => hO _ _ h
  have e5 : ∀ {sz u r}, srcA O sz u = some r → srcA O' sz u = some r := fun h => srcA_mono hO h
  have e6 : ∀ {fresh e tie m g vc s r}, appA O fresh e tie m g vc s = some r → appA O' fresh e tie m g vc s = some r := fun h => appA_mono hO h
  unfold evalEff at h ⊢
  split at h
  all_goals (try simp only [] at h ⊢)
  all_goals (repeat' (split at h))
  all_goals (try (cases h; done))
  all_goals (try (exact h))
  all_goals (try (grind; done))
  all_goals (try (simp only [*]; done))
  all_goals (try (simp only [*] at h ⊢; done))
  all_goals (try (simp only [*] at h ⊢; exact h))
end

end Go.Eng
/- The engine, part 20: one operation, in any larger state, with its new objects under given names. -/
namespace Go.Eng

def putF (d : Option Tmp) (u : AV) (T : Nat → Option AV) : Nat → Option AV := match d with
  | some d => up T d u
  | none => T

theorem lk_putT (d : Option Tmp) (u : AV) (T : List (Nat × AV)) : lk (putT d u T) = putF d u (lk T) := by
  cases d with
  | none => rfl
  | some d =>
    show lk ((d, u) :: rm d T) = up (lk T) d u
    rw [lk_rm, lk_up]

theorem FRep.putF {w : World} {M : Nat → Prop} {bs : Nat → Option Hd} {N : Nat} {T : Nat → Option AV} {a : Act} (h : FRep w M bs N T a) {d : Option Tmp} (hd : dstOK N d = true) {v : Value} {u : AV} (hv : V w M bs v u) : FRep w M bs N (putF d u T) (a.put d v) := by
  cases d with
  | none => exact h
  | some d =>
    have hd' : d < N := by simpa [dstOK, Nat.blt_eq] using hd
    obtain ⟨h0, h1, h2⟩ := h
    refine ⟨by simpa [Act.put] using h0, by simpa [Act.put] using h1, fun i x hx => ?_⟩
    have hx' : up T d u i = some x := hx
    by_cases hi : d = i
    · subst hi
      rw [up_same] at hx'
      simp only [Option.some.injEq] at hx'
      subst hx'
      exact ⟨v, by simp [Act.put, h1, hd'], hv⟩
    · rw [up_other _ _ _ hi] at hx'
      obtain ⟨y, hy, hyv⟩ := h2 i x hx'
      exact ⟨y, by simp [Act.put, Array.getElem?_setIfInBounds_ne hi, hy], hyv⟩

theorem FRep.sub {w : World} {M : Nat → Prop} {bs : Nat → Option Hd} {N : Nat} {T T' : Nat → Option AV} {a : Act} (h : FRep w M bs N T' a) (hT : Sub T T') : FRep w M bs N T a := ⟨h.1, h.2.1, fun i u hu => h.2.2 i u (hT i u hu)⟩

/-- The operation, in any state that has what it looks at, gives u and turns the objects of l; new names lie in k .. k + 15. -/
def OpStep (C : Ctx) (N : Nat) (o : Oper) (T : Nat → Option AV) (O : Nat → Option AObj) (k : Nat) (u : AV) (l : List (Nat × AObj)) : Prop :=
  ∀ (E : Ent) (T' : Nat → Option AV) (O' : Nat → Option AObj) (bs : Nat → Option Hd) (a : Act) (w : World) (K : Act → World → Prop) (Q : Exit → Act → World → Prop), Sub T T' → Sub O O' → Rep C E N T' O' bs a w →
    (∀ r, k ≤ r → r < k + 16 → O' r = none ∧ bs r = none) →
    (∀ bs' a' w', (∀ r, ¬ (k ≤ r ∧ r < k + 16) → bs' r = bs r) → Rep C E N (putF o.dst u T') (upL O' l) bs' a' w' → K a' w') → o.wp C.P a w K Q

theorem upL_or (O : Nat → Option AObj) : ∀ (l : List (Nat × AObj)) (r : Nat), upL O l r = (lk l r).or (O r)
  | [], r => by simp [upL, lk]
  | (j, x) :: l, r => by
    simp only [upL, up, lk_cons, upL_or O l r]
    split <;> simp

section
variable {C : Ctx} {N : Nat} {o : Oper} {T : Nat → Option AV} {O : Nat → Option AObj} {k : Nat} {te : TE}

theorem OpStep.pure (hte : TE.ok C.P te) (hn : ∀ t ti, lk te t = some ti → isAggD ti.desc = false → ti.sz = 1) {u : AV} {vc : Prop} (h : evalPure te T O o.op = some (u, vc)) (hd : dstOK N o.dst = true) (hvc : vc) : OpStep C N o T O k u [] := by
  intro E T' O' bs a w K Q hT hO hr hf hK
  obtain ⟨v, h1, h2⟩ := evalPure_sound hte hn hr.2 hr.1 (evalPure_mono hT hO h) hvc
  unfold Oper.wp
  rw [h1]
  exact hK bs _ _ (fun _ _ => rfl) ⟨hr.1.putF hd h2, hr.2⟩

theorem OpStep.eff (hte : TE.ok C.P te) {u : AV} {l : List (Nat × AObj)} {vc : Prop} (h : evalEff te T O k o.op = some (u, l, vc)) (hd : dstOK N o.dst = true) (hvc : vc) : OpStep C N o T O k u l := by
  intro E T' O' bs a w K Q hT hO hr hf hK
  obtain ⟨h0, h0'⟩ := hf k (Nat.le_refl _) (by omega)
  obtain ⟨nx, v, w', bs', h1, h2, h3, h4, h5, h6⟩ := evalEff_sound hte hr.2 hr.1 h0 h0' (evalEff_mono hT hO h) hvc
  have hbs : ∀ r, ¬ (k ≤ r ∧ r < k + 16) → bs' r = bs r := fun r hr => h3 r (by omega)
  unfold Oper.wp
  rw [h1]
  rcases h2 with rfl | ⟨rfl, rfl⟩
  · exact hK bs' _ _ hbs ⟨(hr.1.step h4).putF hd h6, h5⟩
  · exact hK bs' _ _ hbs ⟨(hr.1.step h4).putF hd h6, h5⟩

/-- The objects handed over, under the callee's names. -/
def OPassF (ρ : Nat → Option Nat) (O : Nat → Option AObj) : List Nat → List AObj → Prop
  | [], [] => True
  | r :: l, o' :: l' => (∃ o, O r = some o ∧ o.mut = true ∧ OLe ρ o o') ∧ OPassF ρ O l l'
  | _, _ => False

theorem OPassF.len {ρ : Nat → Option Nat} {O : Nat → Option AObj} : ∀ {l : List Nat} {l' : List AObj}, OPassF ρ O l l' → l.length = l'.length
  | [], [], _ => rfl
  | _ :: l, _ :: l', h => by simp [OPassF.len h.2]
  | [], _ :: _, h => h.elim
  | _ :: _, [], h => h.elim
theorem OPassF.get {ρ : Nat → Option Nat} {O : Nat → Option AObj} : ∀ {l : List Nat} {l' : List AObj}, OPassF ρ O l l' → ∀ (j r : Nat) (o' : AObj), l[j]? = some r → l'[j]? = some o' → ∃ o, O r = some o ∧ o.mut = true ∧ OLe ρ o o'
  | [], [], _, j, r, o', h, _ => by simp at h
  | x :: l, y :: l', h, 0, r, o', h1, h2 => by simp at h1 h2; subst h1; subst h2; exact h.1
  | x :: l, y :: l', h, j + 1, r, o', h1, h2 => OPassF.get h.2 j r o' (by simpa using h1) (by simpa using h2)
  | [], _ :: _, h, _, _, _, _, _ => h.elim
  | _ :: _, [], h, _, _, _, _, _ => h.elim
theorem OPassF.sub {ρ : Nat → Option Nat} {O O' : Nat → Option AObj} (hs : Sub O O') : ∀ {l : List Nat} {l' : List AObj}, OPassF ρ O l l' → OPassF ρ O' l l'
  | [], [], _ => trivial
  | _ :: _, _ :: _, ⟨⟨o, h1, h2⟩, h⟩ => ⟨⟨o, hs _ _ h1, h2⟩, OPassF.sub hs h⟩
  | [], _ :: _, h => h.elim
  | _ :: _, [], h => h.elim

theorem OpStep.call {fo : Operand} {args : Array Operand} {at_ : Array TypeId} {f : FuncId} {cap as : List AV} {cobjs : List AObj} {R : AV → List (Nat × AObj) → Prop} (pass : List Nat) {u2 : AV} {O2 : List (Nat × AObj)}
    (hop : o.op = .call { callee := .value fo, args := args, argTypes := at_ }) (hd : dstOK N o.dst = true) (hf : evO T fo = some (.func f cap)) (ha : evL T args.toList = some as)
    (hnd : pass.Nodup) (hO : OPassF (idxN pass) O pass cobjs) (hc : ACalls C f (AV.rnL (idxN pass) (as ++ cap)) cobjs R)
    (hR : ∀ u O', R u O' → u.rn (sig pass k) = u2 ∧ OBack (sig pass k) O' O2) :
    OpStep C N o T O k u2 (O2 ++ deads pass) := by
  intro E1 T' S' bs a w K Q hT hOs hr hfr hK
  obtain ⟨hF, hW⟩ := hr
  have hF0 := hF
  replace hf := evO_mono hT hf
  replace ha := evL_mono hT ha
  replace hO := hO.sub hOs
  have hlen := hO.len
  have hpl : ∀ (j r : Nat), pass[j]? = some r → ¬ (k ≤ r ∧ r < k + 16) ∧ ∃ o, S' r = some o ∧ o.mut = true := by
    intro j r hj
    have hj' : j < cobjs.length := by rw [← hlen]; exact (List.getElem?_eq_some_iff.1 hj).1
    obtain ⟨ob, h1, h2, _⟩ := hO.get j r _ hj (List.getElem?_eq_getElem hj')
    refine ⟨?_, ob, h1, h2⟩
    intro h
    rw [(hfr r h.1 h.2).1] at h1; cases h1
  have hbsome : ∀ r ob, S' r = some ob → ob.mut = true → ∃ h, bs r = some h := by
    intro r ob h1 h2
    have := hW.obj r ob h1
    cases ob with
    | cells cs t => obtain ⟨b, c, _, h, _⟩ := this; exact ⟨_, h⟩
    | row t sz n f fr => rcases this with ⟨h, _⟩ | ⟨b, c, _, h, _⟩ <;> exact ⟨_, h⟩
    | amap es => obtain ⟨b, c, _, _, h, _⟩ := this; exact ⟨_, h⟩
    | siter l p => obtain ⟨b, c, _, h, _⟩ := this; exact ⟨_, h⟩
    | miter m n l => obtain ⟨b, c, _, _, _, h, _⟩ := this; exact ⟨_, h⟩
    | dead => simp [AObj.mut] at h2
  -- the callee's side
  let bs0 : Nat → Option Hd := fun j => (pass[j]?).bind bs
  let M1 := MB E1 (S') bs
  let E : Ent := { w0 := w, m := cobjs.length, bs0 := bs0, mut0 := mutB (lkL cobjs) bs0, outer := fun b => M1 b ∧ ¬ mutB (lkL cobjs) bs0 b }
  have hmo : ∀ (j r : Nat) (o' : AObj), pass[j]? = some r → cobjs[j]? = some o' → o'.mut = true := fun j r o' h1 h2 => by
    obtain ⟨ob, h3, h4, h5⟩ := hO.get j r o' h1 h2
    rw [← h5.mut]; exact h4
  have m0 : ∀ b, mutB (lkL cobjs) bs0 b → ∃ (j r : Nat) (ob : AObj) (c : Nat), pass[j]? = some r ∧ S' r = some ob ∧ ob.mut = true ∧ bs r = some (.blk b c) := by
    rintro b ⟨j, o', c, h1, h2, h3⟩
    have hj : j < pass.length := by rw [hlen]; exact (List.getElem?_eq_some_iff.1 h1).1
    have hp := List.getElem?_eq_getElem hj
    obtain ⟨ob, h4, h5, _⟩ := hO.get j _ o' hp h1
    refine ⟨j, _, ob, c, hp, h4, h5, ?_⟩
    simpa [bs0, hp] using h3
  have m0' : ∀ b, mutB (lkL cobjs) bs0 b → mutB (S') bs b := fun b h => by
    obtain ⟨j, r, ob, c, h1, h2, h3, h4⟩ := m0 b h
    exact ⟨r, ob, c, h2, h3, h4⟩
  have hM0 : ∀ b, MB E (lkL cobjs) bs0 b ↔ M1 b := fun b => by
    constructor
    · rintro (h | h)
      · exact h.1
      · exact .inr (m0' b h)
    · intro h
      by_cases hm : mutB (lkL cobjs) bs0 b
      · exact .inr hm
      · exact .inl ⟨h, hm⟩
  have hρ : ∀ r k x, idxN pass r = some k → bs r = some x → bs0 k = some x := fun r k x hr hx => by
    show (pass[k]?).bind bs = some x
    rw [idxN_spec pass r k hr]; exact hx
  have ρat : ∀ (j r : Nat), pass[j]? = some r → idxN pass r = some j := by
    intro j r hj
    have hex : ∀ (l : List Nat) (j : Nat), l[j]? = some r → ∃ k, idxN l r = some k := by
      intro l
      induction l with
      | nil => intro j h; simp at h
      | cons d l ih =>
        intro j h
        simp only [idxN]
        split
        · exact ⟨_, rfl⟩
        · rename_i hne
          cases j with
          | zero => simp at h; subst h; simp [Nat.beq_refl] at hne
          | succ j =>
            obtain ⟨k, hk⟩ := ih j (by simpa using h)
            rw [hk]; exact ⟨_, rfl⟩
    obtain ⟨k, hk⟩ := hex pass j hj
    have hk' := idxN_spec pass r k hk
    have : k = j := by
      exact (List.getElem?_inj (List.getElem?_eq_some_iff.1 hk').1 hnd).1 (hk'.trans hj.symm)
    rw [hk, this]
  have vin : ∀ {v : Value} {u : AV}, V w M1 bs v u → V w (MB E (lkL cobjs) bs0) bs0 v (u.rn (idxN pass)) := fun h =>
    (h.rn (idxN pass) bs0 hρ).step_ (fun b _ hb hb' => hb ((hM0 b).1 hb')) (fun _ _ _ => rfl) (Nat.le_refl _) _ fun _ _ hh => hh
  have hW0 : WRep C E (lkL cobjs) bs0 w := {
    obj := fun j o' ho => by
      have hj : j < pass.length := by rw [hlen]; exact (List.getElem?_eq_some_iff.1 ho).1
      have hp := List.getElem?_eq_getElem hj
      obtain ⟨ob, h4, h5, h6⟩ := hO.get j _ o' hp ho
      exact (h6.ok hρ (ρat j _ hp) (hW.obj _ _ h4)).step ⟨fun _ _ h => h, fun b _ hb hb' => hb ((hM0 b).1 hb'), fun _ _ _ => rfl, Nat.le_refl _⟩ fun _ _ _ => rfl
    sep := fun j j' o1 o2 b c c' h1 h2 n1 n2 b1 b2 => by
      have hj : j < pass.length := by rw [hlen]; exact (List.getElem?_eq_some_iff.1 h1).1
      have hj' : j' < pass.length := by rw [hlen]; exact (List.getElem?_eq_some_iff.1 h2).1
      have hp := List.getElem?_eq_getElem hj
      have hp' := List.getElem?_eq_getElem hj'
      obtain ⟨q1, h4, h5, _⟩ := hO.get j _ o1 hp h1
      obtain ⟨q2, h4', h5', _⟩ := hO.get j' _ o2 hp' h2
      have := hW.sep _ _ q1 q2 b c c' h4 h4' h5 h5' (by simpa [bs0, hp] using b1) (by simpa [bs0, hp'] using b2)
      exact (List.getElem?_inj hj hnd).1 (by rw [hp, hp', this])
    out := fun b hb ho => ho.2 hb
    frz := fun j t sz n f b c ho hb => by
      have hj : j < pass.length := by rw [hlen]; exact (List.getElem?_eq_some_iff.1 ho).1
      have := hmo j _ _ (List.getElem?_eq_getElem hj) ho
      simp [AObj.mut] at this
    high := fun b hb => hW.high b ((hM0 b).1 hb)
    lt := fun j b c hb => by
      show b < w.heap.size
      cases hp : pass[j]? with
      | none => simp [bs0, hp] at hb
      | some r => exact hW.lt r b c (by simpa [bs0, hp] using hb)
    outlt := fun b hb => by
      show b < w.heap.size
      rcases hb.1 with h | ⟨r, ob, c, _, _, h⟩
      · exact Nat.lt_of_lt_of_le (hW.outlt b h) hW.size
      · exact hW.lt r b c h
    keep := fun b _ _ => rfl
    old := fun b hb => .inl hb
    size := Nat.le_refl _
    pre := fun r h _ hb => hb
    os := rfl
    tape := .refl _ _
    output := rfl
    laid := hW.laid
    gle := Nat.le_trans hW.gle hW.size }
  have hsf := evO_sound hF hf
  obtain ⟨hal, hav⟩ := evL_sound hF _ _ ha
  generalize hfe : a.eval fo = vf at hsf
  cases hsf with
  | func hcl hcv =>
    rename_i caps
    have hcall := hc.2 E bs0 w ((args.toList.map a.eval) ++ caps.toList) rfl rfl rfl hW0 (fun r hr => by
        show (pass[r]?).bind bs = none
        rw [List.getElem?_eq_none (by omega)]; rfl)
      (by rw [rnL_len, List.length_append, List.length_append, hal]; show _ + caps.size = _; rw [hcl])
      (fun j v u hv hu => by
        rw [rnL_get] at hu
        obtain ⟨u', hu', rfl⟩ := Option.map_eq_some_iff.1 hu
        refine vin ?_
        rcases Nat.lt_or_ge j as.length with hj | hj
        · rw [List.getElem?_append_left (by rw [hal]; exact hj)] at hv
          rw [List.getElem?_append_left hj] at hu'
          exact hav j v u' hv hu'
        · rw [List.getElem?_append_right (by rw [hal]; exact hj), hal] at hv
          rw [List.getElem?_append_right hj] at hu'
          exact hcv _ v u' (by simpa using hv) hu')
    have hrun : (execOp a.eval o).run C.P w = .ok (.enter f ((args.toList.map a.eval) ++ caps.toList).toArray) w := by
      have e : ((args.toList.map a.eval) ++ caps.toList).toArray = args.map a.eval ++ caps := by
        apply Array.toList_inj.1; simp
      rw [e]
      simp only [execOp, hop, resolve, hfe, Deferred.ofValue, Sem.run_bind, Sem.run_pure, Result.andThen_ok, invoke, Array.empty_append]
      exact run_callFunc hc.1 _ w
    unfold Oper.wp
    rw [hrun, Oper.upon_enter]
    refine hcall.mono ?_
    rintro e w' ⟨v, u, O', bs', rfl, hRR, hW', hV', hfr'⟩
    obtain ⟨rfl, hOB⟩ := hR u O' hRR
    -- the caller's side, behind the call
    let bs2 : Nat → Option Hd := fun r => if k ≤ r ∧ r < k + 16 then bs' (r - k + pass.length) else bs r
    have lt16 : ∀ j o', lk O' j = some o' → j < pass.length + 16 := fun j o' h => by
      rcases Nat.lt_or_ge j (pass.length + 16) with hh | hh
      · exact hh
      · rw [(hfr' j (by rw [← hlen]; exact hh)).1] at h; cases h
    have lt16' : ∀ j x, bs' j = some x → j < pass.length + 16 := fun j x h => by
      rcases Nat.lt_or_ge j (pass.length + 16) with hh | hh
      · exact hh
      · rw [(hfr' j (by rw [← hlen]; exact hh)).2] at h; cases h
    let S3 : Nat → Option AObj := upL S' (O2 ++ deads pass)
    have lk3 : ∀ r, S3 r = ((lk O2 r).or (lk (deads pass) r)).or (S' r) := fun r => by
      show upL S' (O2 ++ deads pass) r = _
      rw [upL_or, lk_append]
    have hold : ∀ (j r : Nat), pass[j]? = some r → bs' j = bs r := by
      intro j r hj
      obtain ⟨_, ob, h1, h2⟩ := hpl j r hj
      obtain ⟨h, hh⟩ := hbsome r ob h1 h2
      rw [hh]
      refine hW'.pre j h ?_ ?_
      · show j < cobjs.length
        rw [← hlen]; exact (List.getElem?_eq_some_iff.1 hj).1
      · show (pass[j]?).bind bs = some h
        rw [hj]; exact hh
    have sigb : ∀ (j r : Nat), j < pass.length + 16 → sig pass k j = some r → bs2 r = bs' j := by
      intro j r hj16 hj
      unfold sig at hj
      split at hj
      · rename_i r' hp
        simp only [Option.some.injEq] at hj
        subst hj
        show (if k ≤ r' ∧ r' < k + 16 then _ else bs r') = bs' j
        rw [if_neg (hpl j r' hp).1, hold j r' hp]
      · rename_i hp
        simp only [Option.some.injEq] at hj
        subst hj
        have : pass.length ≤ j := List.getElem?_eq_none_iff.1 hp
        show (if k ≤ k + (j - pass.length) ∧ k + (j - pass.length) < k + 16 then bs' (k + (j - pass.length) - k + pass.length) else _) = bs' j
        rw [if_pos (by omega)]
        congr 1; omega
    have hσ : ∀ j r x, sig pass k j = some r → bs' j = some x → bs2 r = some x := fun j r x hj hx => by rw [sigb j r (lt16' j x hx) hj]; exact hx
    -- where an object of the new table comes from
    have cases3 : ∀ r o2, S3 r = some o2 → (∃ j o', sig pass k j = some r ∧ lk O' j = some o' ∧ OLe (sig pass k) o' o2) ∨ o2 = .dead ∨ (r ∉ pass ∧ S' r = some o2) := by
      intro r o2 h
      rw [lk3, lk_deads] at h
      cases hx : lk O2 r with
      | some y =>
        rw [hx] at h
        simp only [Option.some_or, Option.some.injEq] at h
        subst h
        exact .inl (hOB.get r y hx)
      | none =>
        rw [hx] at h
        simp only [Option.none_or] at h
        split at h
        · simp only [Option.some_or, Option.some.injEq] at h
          exact .inr (.inl h.symm)
        · rename_i hnp
          exact .inr (.inr ⟨hnp, by simpa using h⟩)
    have oldnx : ∀ r ob, S' r = some ob → ¬ (k ≤ r ∧ r < k + 16) := by
      intro r ob h hh
      rw [(hfr r hh.1 hh.2).1] at h; cases h
    have oldmut : ∀ r ob b c, r ∉ pass → S' r = some ob → ob.mut = true → bs r = some (.blk b c) → ¬ mutB (lkL cobjs) bs0 b := by
      intro r ob b c hnp h1 h2 h3 hm
      obtain ⟨j, r', ob', c', p1, p2, p3, p4⟩ := m0 b hm
      have := hW.sep r r' ob ob' b c c' h1 p2 h2 p3 h3 p4
      subst this
      exact hnp (List.mem_of_getElem? p1)
    have mut3 : ∀ b, mutB S3 bs2 b → mutB (lk O') bs' b ∨ (mutB (S') bs b ∧ ¬ mutB (lkL cobjs) bs0 b) := by
      rintro b ⟨r, o2, c, h1, h2, h3⟩
      rcases cases3 r o2 h1 with ⟨j, o', q1, q2, q3⟩ | rfl | ⟨q1, q2⟩
      · exact .inl ⟨j, o', c, q2, by rw [q3.mut]; exact h2, by rw [← sigb j r (lt16 j o' q2) q1]; exact h3⟩
      · simp [AObj.mut] at h2
      · have hlt := oldnx r o2 q2
        have h3' : bs r = some (.blk b c) := by
          have : bs2 r = bs r := if_neg hlt
          rw [← this]; exact h3
        exact .inr ⟨⟨r, o2, c, q2, h2, h3'⟩, oldmut r o2 b c q1 q2 h2 h3'⟩
    have hM2 : ∀ b, MB E1 S3 bs2 b → MB E (lk O') bs' b := by
      rintro b (h | h)
      · exact .inl ⟨.inl h, fun hm => hW.out b (m0' b hm) h⟩
      · rcases mut3 b h with h | ⟨h, hn⟩
        · exact .inr h
        · exact .inl ⟨.inr h, hn⟩
    have hM3 : ∀ b, b < w.heap.size → MB E (lk O') bs' b → M1 b := by
      rintro b hb (h | h)
      · exact h.1
      · rcases hW'.old b h with h | h
        · exact .inr (m0' b h)
        · have : w.heap.size ≤ b := h
          omega
    have heap_ : ∀ b, b < w.heap.size → ¬ mutB (lkL cobjs) bs0 b → w'.heap[b]? = w.heap[b]? := fun b hb hn => hW'.keep b hb hn
    have bs_ : ∀ r h, bs r = some h → bs2 r = some h := by
      intro r h hh
      have hlt : ¬ (k ≤ r ∧ r < k + 16) := fun hh' => by
        rw [(hfr r hh'.1 hh'.2).2] at hh; cases hh
      have : bs2 r = bs r := if_neg hlt
      rw [this]; exact hh
    have hS : Step w M1 bs w' (MB E1 S3 bs2) bs2 :=
      ⟨bs_, fun b hb hn h => hn (hM3 b hb (hM2 b h)), fun b hb hn => heap_ b hb fun hm => hn (.inr (m0' b hm)), hW'.size⟩
    have hSV : ∀ {v : Value} {u : AV}, V w' (MB E (lk O') bs') bs' v u → V w' (MB E1 S3 bs2) bs2 v (u.rn (sig pass k)) := fun h =>
      (h.rn (sig pass k) bs2 hσ).step_ (fun b _ hb hb' => hb (hM2 b hb')) (fun _ _ _ => rfl) (Nat.le_refl _) _ fun _ _ hh => hh
    have hW2 : WRep C E1 S3 bs2 w' := {
      obj := fun r o2 ho => by
        rcases cases3 r o2 ho with ⟨j, o', q1, q2, q3⟩ | rfl | ⟨q1, q2⟩
        · exact (q3.ok hσ q1 (hW'.obj j o' q2)).step ⟨fun _ _ h => h, fun b _ hb hb' => hb (hM2 b hb'), fun _ _ _ => rfl, Nat.le_refl _⟩ fun _ _ _ => rfl
        · trivial
        · by_cases hdd : o2 = .dead
          · subst hdd; trivial
          refine (hW.obj r o2 q2).step hS fun b c hb => heap_ b (hW.lt r b c hb) ?_
          cases hmm : o2.mut with
          | true => exact oldmut r o2 b c q1 q2 hmm hb
          | false =>
            intro hm
            cases o2 with
            | row t sz n f fr =>
              have : fr = true := by simpa [AObj.mut] using hmm
              subst this
              exact hW.frz r t sz n f b c q2 hb (.inr (m0' b hm))
            | dead => exact hdd rfl
            | _ => simp [AObj.mut] at hmm
      sep := fun r r' o1 o2 b c c' h1 h2 n1 n2 b1 b2 => by
        have mem : ∀ r o2 b c, S3 r = some o2 → o2.mut = true → bs2 r = some (.blk b c) → (∃ j o', sig pass k j = some r ∧ lk O' j = some o' ∧ o'.mut = true ∧ bs' j = some (.blk b c)) ∨ (r ∉ pass ∧ S' r = some o2 ∧ bs r = some (.blk b c)) := by
          intro r o2 b c h1 h2 h3
          rcases cases3 r o2 h1 with ⟨j, o', q1, q2, q3⟩ | rfl | ⟨q1, q2⟩
          · exact .inl ⟨j, o', q1, q2, by rw [q3.mut]; exact h2, by rw [← sigb j r (lt16 j o' q2) q1]; exact h3⟩
          · simp [AObj.mut] at h2
          · have : bs2 r = bs r := if_neg (oldnx r o2 q2)
            exact .inr ⟨q1, q2, by rw [← this]; exact h3⟩
        have clash : ∀ j o' r ob b c c', lk O' j = some o' → o'.mut = true → bs' j = some (.blk b c) → r ∉ pass → S' r = some ob → ob.mut = true → bs r = some (.blk b c') → False := by
          intro j o' r ob b c c' h1 h2 h3 h4 h5 h6 h7
          rcases hW'.old b ⟨j, o', c, h1, h2, h3⟩ with h | h
          · exact oldmut r ob b c' h4 h5 h6 h7 h
          · have hlt := hW.lt r b c' h7
            have : w.heap.size ≤ b := h
            omega
        rcases mem r o1 b c h1 n1 b1 with ⟨j, o', q1, q2, q3, q4⟩ | ⟨q1, q2, q3⟩
        · rcases mem r' o2 b c' h2 n2 b2 with ⟨j', o'', p1, p2, p3, p4⟩ | ⟨p1, p2, p3⟩
          · have := hW'.sep j j' o' o'' b c c' q2 p2 q3 p3 q4 p4
            subst this
            rw [q1] at p1
            injection p1
          · exact (clash j o' r' o2 b c c' q2 q3 q4 p1 p2 n2 p3).elim
        · rcases mem r' o2 b c' h2 n2 b2 with ⟨j', o'', p1, p2, p3, p4⟩ | ⟨p1, p2, p3⟩
          · exact (clash j' o'' r o1 b c' c p2 p3 p4 q1 q2 n1 q3).elim
          · exact hW.sep r r' o1 o2 b c c' q2 p2 n1 n2 q3 p3
      out := fun b hb ho => by
        rcases mut3 b hb with h | ⟨h, _⟩
        · exact hW'.out b h ⟨.inl ho, fun hm => hW.out b (m0' b hm) ho⟩
        · exact hW.out b h ho
      frz := fun r t sz n f b c ho hb hM => by
        rcases cases3 r _ ho with ⟨j, o', q1, q2, q3⟩ | h | ⟨q1, q2⟩
        · cases o' <;> simp only [OLe] at q3
          obtain ⟨rfl, rfl, rfl, rfl, _⟩ := q3
          exact hW'.frz j _ _ _ _ b c q2 (by rw [← sigb j r (lt16 j _ q2) q1]; exact hb) (hM2 b hM)
        · cases h
        · have e : bs2 r = bs r := if_neg (oldnx r _ q2)
          have hb' : bs r = some (.blk b c) := by rw [← e]; exact hb
          exact hW.frz r t sz n f b c q2 hb' (hM3 b (hW.lt r b c hb') (hM2 b hM))
      high := fun b hb => hW'.high b (hM2 b hb)
      lt := fun r b c hb => by
        by_cases hlt : ¬ (k ≤ r ∧ r < k + 16)
        · have e : bs2 r = bs r := if_neg hlt
          exact Nat.lt_of_lt_of_le (hW.lt r b c (by rw [← e]; exact hb)) hW'.size
        · have e : bs2 r = bs' (r - k + pass.length) := if_pos (Classical.not_not.1 hlt)
          exact hW'.lt _ b c (by rw [← e]; exact hb)
      outlt := hW.outlt
      keep := fun b hb hm => by
        have hlt : b < w.heap.size := Nat.lt_of_lt_of_le hb hW.size
        rw [heap_ b hlt (fun h => ?_)]
        · exact hW.keep b hb hm
        · rcases hW.old b (m0' b h) with h | h
          · exact hm h
          · omega
      old := fun b hb => by
        rcases mut3 b hb with h | ⟨h, _⟩
        · rcases hW'.old b h with h | h
          · exact hW.old b (m0' b h)
          · right; exact Nat.le_trans hW.size h
        · exact hW.old b h
      size := Nat.le_trans hW.size hW'.size
      pre := fun r h hr hb => bs_ r h (hW.pre r h hr hb)
      os := hW'.os.trans hW.os
      tape := hW'.tape.trans hW.tape
      output := hW'.output.trans hW.output
      laid := hW'.laid
      gle := hW.gle }
    exact hK bs2 _ _ (fun r hr => if_neg hr) ⟨(hF.step hS).putF hd (hSV hV'), hW2⟩
end

end Go.Eng
/- The engine, part 21: a region that draws its order. -/
namespace Go.Eng

structure PEnt where
  want : Bool
  u : AV
  l : List (Nat × AObj)

section
variable (dst : Nat → Option Nat) (us : Nat → AV) (ls : Nat → List (Nat × AObj)) (T0 : Nat → Option AV) (O0 : Nat → Option AObj)

/-- What the slots hold when the operations of D, among the first n, are done. -/
def getT (D : Nat → Bool) : Nat → Nat → Option AV
  | 0, d => T0 d
  | n + 1, d => if D n = true ∧ dst n = some d then some (us n) else getT D n d

def getO (D : Nat → Bool) : Nat → Nat → Option AObj
  | 0, r => O0 r
  | n + 1, r => if D n = true then (lk (ls n) r).or (getO D n r) else getO D n r

theorem getT_congr {D D' : Nat → Bool} {d : Nat} : ∀ {n : Nat}, (∀ j, j < n → dst j = some d → D j = D' j) → getT dst us T0 D n d = getT dst us T0 D' n d
  | 0, _ => rfl
  | n + 1, h => by
    simp only [getT]
    rw [getT_congr (fun j hj => h j (by omega))]
    by_cases hd : dst n = some d
    · rw [h n (by omega) hd]
    · simp [hd]

theorem getT_add {D : Nat → Bool} {i d : Nat} (hi : D i = false) : ∀ {n : Nat}, i < n → (∀ j, i < j → j < n → D j = true → dst j = some d → dst i ≠ some d) →
    getT dst us T0 (fun j => D j || j == i) n d = if dst i = some d then some (us i) else getT dst us T0 D n d
  | 0, h, _ => by omega
  | n + 1, h, hl => by
    simp only [getT]
    by_cases hin : n = i
    · subst hin
      rw [getT_congr dst us T0 (D := fun j => D j || j == n) (D' := D) (n := n) (fun j hj _ => by simp; omega)]
      simp [hi]
    · rw [getT_add hi (by omega) (fun j h1 h2 => hl j h1 (by omega))]
      have : (n == i) = false := by simpa using hin
      simp only [this, Bool.or_false]
      by_cases hc : D n = true ∧ dst n = some d
      · have := hl n (by omega) (by omega) hc.1 hc.2
        simp [hc, this]
      · simp [hc]

theorem getO_congr {D D' : Nat → Bool} {r : Nat} : ∀ {n : Nat}, (∀ j, j < n → lk (ls j) r ≠ none → D j = D' j) → getO ls O0 D n r = getO ls O0 D' n r
  | 0, _ => rfl
  | n + 1, h => by
    simp only [getO]
    rw [getO_congr (fun j hj => h j (by omega))]
    by_cases hd : lk (ls n) r = none
    · simp [hd]
    · rw [h n (by omega) hd]

theorem getO_add {D : Nat → Bool} {i r : Nat} (hi : D i = false) : ∀ {n : Nat}, i < n → (∀ j, i < j → j < n → D j = true → lk (ls j) r ≠ none → lk (ls i) r = none) →
    getO ls O0 (fun j => D j || j == i) n r = (lk (ls i) r).or (getO ls O0 D n r)
  | 0, h, _ => by omega
  | n + 1, h, hl => by
    simp only [getO]
    by_cases hin : n = i
    · subst hin
      rw [getO_congr ls O0 (D := fun j => D j || j == n) (D' := D) (n := n) (fun j hj _ => by simp; omega)]
      simp [hi]
    · rw [getO_add hi (by omega) (fun j h1 h2 => hl j h1 (by omega))]
      have : (n == i) = false := by simpa using hin
      simp only [this, Bool.or_false]
      by_cases hc : D n = true
      · simp only [hc, if_true]
        by_cases hn : lk (ls n) r = none
        · simp [hn]
        · rw [hl n (by omega) (by omega) hc hn]; simp
      · simp [hc]

theorem getT_lt {j d : Nat} : ∀ {n : Nat}, j ≤ n → getT dst us T0 (fun x => Nat.blt x j) n d = getT dst us T0 (fun _ => true) j d
  | 0, h => by have : j = 0 := by omega
               subst this; rfl
  | n + 1, h => by
    by_cases hj : j = n + 1
    · subst hj
      exact getT_congr dst us T0 (fun x hx _ => by simp [Nat.blt_eq, hx])
    · have hb : Nat.blt n j = false := by
        cases hb : Nat.blt n j with
        | false => rfl
        | true => rw [Nat.blt_eq] at hb; omega
      rw [← getT_lt (n := n) (by omega)]
      simp [getT, hb]

theorem getO_lt {j r : Nat} : ∀ {n : Nat}, j ≤ n → getO ls O0 (fun x => Nat.blt x j) n r = getO ls O0 (fun _ => true) j r
  | 0, h => by have : j = 0 := by omega
               subst this; rfl
  | n + 1, h => by
    by_cases hj : j = n + 1
    · subst hj
      exact getO_congr ls O0 (fun x hx _ => by simp [Nat.blt_eq, hx])
    · have hb : Nat.blt n j = false := by
        cases hb : Nat.blt n j with
        | false => rfl
        | true => rw [Nat.blt_eq] at hb; omega
      rw [← getO_lt (n := n) (by omega)]
      simp [getO, hb]
end

def linT : List Oper → List PEnt → List (Nat × AV) → List (Nat × AV)
  | o :: l, p :: ps, T => linT l ps (putT o.dst p.u T)
  | _, _, T => T
def linO : List PEnt → List (Nat × AObj) → List (Nat × AObj)
  | p :: ps, O => linO ps (p.l ++ O)
  | [], O => O

def dstF (opl : List Oper) (j : Nat) : Option Nat := match opl[j]? with
  | some o => o.dst
  | none => none
def uF (plan : List PEnt) (j : Nat) : AV := match plan[j]? with
  | some p => p.u
  | none => .any
def lF (plan : List PEnt) (j : Nat) : List (Nat × AObj) := match plan[j]? with
  | some p => p.l
  | none => []

theorem linT_snoc : ∀ (l : List Oper) (ps : List PEnt) (T : List (Nat × AV)) (o : Oper) (p : PEnt), l.length = ps.length → linT (l ++ [o]) (ps ++ [p]) T = putT o.dst p.u (linT l ps T)
  | [], [], T, o, p, _ => rfl
  | _ :: l, _ :: ps, T, o, p, h => by simp only [List.cons_append, linT]; exact linT_snoc l ps _ o p (by simpa using h)
  | [], _ :: _, _, _, _, h => by simp at h
  | _ :: _, [], _, _, _, h => by simp at h
theorem linO_snoc : ∀ (ps : List PEnt) (O : List (Nat × AObj)) (p : PEnt), linO (ps ++ [p]) O = p.l ++ linO ps O
  | [], O, p => rfl
  | _ :: ps, O, p => by simp only [List.cons_append, linO]; exact linO_snoc ps _ p

theorem lk_linT (opl : List Oper) (plan : List PEnt) (T0 : List (Nat × AV)) (hl : opl.length = plan.length) : ∀ j, j ≤ opl.length → lk (linT (opl.take j) (plan.take j) T0) = getT (dstF opl) (uF plan) (lk T0) (fun _ => true) j
  | 0, _ => by funext d; simp [linT, getT]
  | j + 1, h => by
    have h1 : j < opl.length := by omega
    have h2 : j < plan.length := by omega
    rw [List.take_succ_eq_append_getElem h1, List.take_succ_eq_append_getElem h2, linT_snoc _ _ _ _ _ (by simp; omega), lk_putT, lk_linT opl plan T0 hl j (by omega)]
    funext d
    have e1 : dstF opl j = opl[j].dst := by simp [dstF, h1]
    have e2 : uF plan j = plan[j].u := by simp [uF, h2]
    simp only [getT, true_and, e1, e2]
    cases opl[j].dst with
    | none => simp [putF]
    | some x => simp [putF, up]
theorem lk_linO (plan : List PEnt) (O0 : List (Nat × AObj)) : ∀ j, j ≤ plan.length → lk (linO (plan.take j) O0) = getO (lF plan) (lk O0) (fun _ => true) j
  | 0, _ => by funext d; simp [linO, getO]
  | j + 1, h => by
    have h2 : j < plan.length := by omega
    rw [List.take_succ_eq_append_getElem h2, linO_snoc]
    funext r
    rw [lk_append, lk_linO plan O0 j (by omega)]
    have e2 : lF plan j = plan[j].l := by simp [lF, h2]
    simp [getO, e2]

/-- A state from which some things are hidden. -/
def hide {α : Type} (h : List Nat) (f : Nat → Option α) (i : Nat) : Option α := match hasN h i with
  | true => none
  | false => f i

def DStep (C : Ctx) (N : Nat) (opl : List Oper) (hT hO : List Nat) (k : Nat) (o : Oper) (p : PEnt) (T : List (Nat × AV)) (O : List (Nat × AObj)) : Prop :=
  ((o.guard = none ∧ p.want = true) ∨ (∃ d b want, gslot opl o = some (d, want) ∧ hide hT (lk T) d = some (.bool b) ∧ (b == want) = p.want) ∨ ∃ d want, gslot opl o = some (d, want) ∧ hide hT (lk T) d = some (.tuple []) ∧ p.want = false) ∧
  ((p.want = true ∧ OpStep C N o (hide hT (lk T)) (hide hO (lk O)) k p.u p.l) ∨ (p.want = false ∧ p.u = .tuple [] ∧ p.l = [] ∧ dstOK N o.dst = true))

def DAll (C : Ctx) (N : Nat) (opl : List Oper) : Nat → List Oper → List PEnt → List (List Nat × List Nat) → List (Nat × AV) → List (Nat × AObj) → Prop
  | k, o :: l, p :: ps, h :: hs, T, O => DStep C N opl h.1 h.2 k o p T O ∧ DAll C N opl (k + 16) l ps hs (putT o.dst p.u T) (p.l ++ O)
  | _, [], [], [], _, _ => True
  | _, _, _, _, _, _ => False

theorem DAll.len {C : Ctx} {N : Nat} {opl : List Oper} : ∀ {l : List Oper} {ps : List PEnt} {hs : List (List Nat × List Nat)} {k : Nat} {T : List (Nat × AV)} {O : List (Nat × AObj)}, DAll C N opl k l ps hs T O → l.length = ps.length
  | _ :: _, _ :: _, _ :: _, _, _, _, h => by simp [DAll.len h.2]
  | [], [], [], _, _, _, _ => rfl
  | [], [], _ :: _, _, _, _, h => h.elim
  | [], _ :: _, _, _, _, _, h => h.elim
  | _ :: _, [], _, _, _, _, h => h.elim
  | _ :: _, _ :: _, [], _, _, _, h => h.elim

def hF (hid : List (List Nat × List Nat)) (i : Nat) : List Nat × List Nat := match hid[i]? with
  | some h => h
  | none => ([], [])

theorem DAll.get {C : Ctx} {N : Nat} {opl : List Oper} : ∀ {l : List Oper} {ps : List PEnt} {hs : List (List Nat × List Nat)} {k : Nat} {T : List (Nat × AV)} {O : List (Nat × AObj)}, DAll C N opl k l ps hs T O →
    ∀ (j : Nat) o p, l[j]? = some o → ps[j]? = some p → DStep C N opl (hF hs j).1 (hF hs j).2 (k + 16 * j) o p (linT (l.take j) (ps.take j) T) (linO (ps.take j) O)
  | _ :: _, _ :: _, _ :: _, k, T, O, h, 0, o, p, h1, h2 => by
    simp at h1 h2; subst h1; subst h2
    simpa [linT, linO, hF] using h.1
  | x :: l, y :: ps, z :: hs, k, T, O, h, j + 1, o, p, h1, h2 => by
    have := DAll.get h.2 j o p (by simpa using h1) (by simpa using h2)
    have e : k + 16 * (j + 1) = k + 16 + 16 * j := by omega
    rw [e]
    simpa [linT, linO, hF] using this
  | [], [], [], _, _, _, _, j, o, p, h1, _ => by simp at h1
  | [], [], _ :: _, _, _, _, h, _, _, _, _, _ => h.elim
  | [], _ :: _, _, _, _, _, h, _, _, _, _, _ => h.elim
  | _ :: _, [], _, _, _, _, h, _, _, _, _, _ => h.elim
  | _ :: _, _ :: _, [], _, _, _, h, _, _, _, _, _ => h.elim

def ancF (anc : List (List Nat)) (i : Nat) : List Nat := match anc[i]? with
  | some l => l
  | none => []
def aftF (opl : List Oper) (i : Nat) : List Edge := match opl[i]? with
  | some o => o.after.toList
  | none => []

/-- What is looked at ahead of the region: which operations have a fixed order; the others keep off each other's places. -/
def chkA (opl : List Oper) (anc : List (List Nat)) (n : Nat) : Bool := (List.range n).all fun i =>
  (ancF anc i).all (fun j => Nat.blt j i && (aftF opl i).any fun e => Region.binds .any e && (Nat.beq e.on j || hasN (ancF anc e.on) j)) && (aftF opl i).all fun e => !Region.binds .any e || Nat.blt e.on i
def dom (plan : List PEnt) (j : Nat) : List Nat := (lF plan j).map Prod.fst
def hidesB (opl : List Oper) (plan : List PEnt) (hid : List (List Nat × List Nat)) (i j : Nat) : Bool :=
  (match dstF opl j with
    | some d => hasN (hF hid i).1 d
    | none => true) && (dom plan j).all (hasN (hF hid i).2)
def dstNe (opl : List Oper) (i j : Nat) : Bool := match dstF opl i, dstF opl j with
  | some d, some d' => !Nat.beq d d'
  | _, _ => true
def chkB (opl : List Oper) (plan : List PEnt) (anc : List (List Nat)) (hid : List (List Nat × List Nat)) (n : Nat) : Bool := (List.range n).all fun i => (List.range i).all fun j =>
  hasN (ancF anc i) j || (dstNe opl i j && (dom plan i).all (fun r => !hasN (dom plan j) r) && hidesB opl plan hid i j && hidesB opl plan hid j i)
def chkC (plan : List PEnt) (anc : List (List Nat)) (nx n : Nat) : Bool := (List.range n).all fun i => (dom plan i).all fun r => Nat.blt r nx || (i :: ancF anc i).any fun j => Nat.ble (nx + 16 * j) r && Nat.blt r (nx + 16 * j + 16)

theorem lk_dom {α : Type} : ∀ (l : List (Nat × α)) (r : Nat), lk l r ≠ none ↔ r ∈ l.map Prod.fst
  | [], r => by simp [lk]
  | p :: l, r => by
    rw [lk_cons, List.map_cons, List.mem_cons]
    by_cases h : p.1 = r
    · simp [h]
    · simp only [h, if_false, lk_dom l r]
      constructor
      · exact .inr
      · rintro (h' | h')
        · exact absurd h'.symm h
        · exact h'

theorem nodup_len : ∀ (n : Nat) (L : List Nat), L.Nodup → (∀ i ∈ L, i < n) → L.length ≤ n
  | 0, L, _, h => by cases L with
    | nil => simp
    | cons x l => have := h x (by simp); omega
  | n + 1, L, hn, h => by
    have h1 := nodup_len n (L.erase n) (hn.erase n) fun i hi => by
      have := (hn.mem_erase_iff.1 hi)
      have := h i this.2
      omega
    have := List.length_erase (a := n) (l := L)
    split at this <;> omega

end Go.Eng
