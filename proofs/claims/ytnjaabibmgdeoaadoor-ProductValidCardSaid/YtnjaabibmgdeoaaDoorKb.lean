/- Lemmas that the tied card of ProductValid is proved by. -/
import Derived.Test.YtnjaabibmgdeoaaDoorKa
/- The engine, part 6: structs and arrays built; all operations that write nothing in one function. -/
namespace Go.Eng

def spliceA : List AV → Nat → List AV → Option (List AV)
  | cs, 0, [] => some cs
  | [], _, _ :: _ => none
  | [], _ + 1, [] => none
  | _ :: cs, 0, x :: xs => match spliceA cs 0 xs with
    | some r => some (x :: r)
    | none => none
  | c :: cs, k + 1, xs => match spliceA cs k xs with
    | some r => some (c :: r)
    | none => none

theorem spliceA_spec : ∀ (cs : List AV) (off : Nat) (xs r : List AV), spliceA cs off xs = some r →
    r.length = cs.length ∧ off + xs.length ≤ cs.length ∧ ∀ j, r[j]? = if off ≤ j ∧ j < off + xs.length then xs[j - off]? else cs[j]?
  | cs, 0, [], r, h => by
    have : r = cs := by cases cs <;> simp [spliceA] at h <;> first | exact h | exact h.symm
    subst this
    exact ⟨rfl, by simp, fun j => by rw [if_neg]; simp⟩
  | [], 0, x :: xs, r, h => by simp [spliceA] at h
  | [], k + 1, xs, r, h => by cases xs <;> simp [spliceA] at h
  | c :: cs, 0, x :: xs, r, h => by
    simp only [spliceA] at h
    split at h
    · rename_i r' hr
      simp only [Option.some.injEq] at h
      subst h
      obtain ⟨h1, h2, h3⟩ := spliceA_spec cs 0 xs r' hr
      refine ⟨by simp [h1], by simp only [List.length_cons]; omega, fun j => ?_⟩
      cases j with
      | zero => simp
      | succ j =>
        simp only [List.getElem?_cons_succ, h3 j, List.length_cons, Nat.zero_le, true_and, Nat.zero_add, Nat.sub_zero, Nat.add_lt_add_iff_right]
        try split <;> simp
    · cases h
  | c :: cs, k + 1, xs, r, h => by
    simp only [spliceA] at h
    split at h
    · rename_i r' hr
      simp only [Option.some.injEq] at h
      subst h
      obtain ⟨h1, h2, h3⟩ := spliceA_spec cs k xs r' hr
      refine ⟨by simp [h1], by simp only [List.length_cons]; omega, fun j => ?_⟩
      cases j with
      | zero => simp
      | succ j =>
        simp only [List.getElem?_cons_succ, h3 j]
        have e : (k ≤ j ∧ j < k + xs.length) ↔ (k + 1 ≤ j + 1 ∧ j + 1 < k + 1 + xs.length) := by omega
        simp only [e]
        split
        · congr 1; omega
        · rfl
    · cases h

def cellsA : AV → Option (List AV)
  | .agg cs => some cs
  | .any => none
  | .tuple _ => none
  | u => some [u]

theorem cellsA_sound {w : World} {M : Nat → Prop} {bs : Nat → Option Hd} {v : Value} {u : AV} {cs : List AV} (hv : V w M bs v u) (h : cellsA u = some cs) :
    v.cells.size = cs.length ∧ (∀ (j : Nat) (x : Value), v.cells[j]? = some x → x.oneCell' = true) ∧ ∀ (j : Nat) x y, v.cells[j]? = some x → cs[j]? = some y → V w M bs x y := by
  have key : v.cells = #[v] → v.oneCell' = true → cs = [u] → v.cells.size = cs.length ∧ (∀ (j : Nat) (x : Value), v.cells[j]? = some x → x.oneCell' = true) ∧ ∀ (j : Nat) x y, v.cells[j]? = some x → cs[j]? = some y → V w M bs x y := fun hc h1 e => by
    subst e
    refine ⟨by rw [hc]; rfl, fun j x hx => ?_, fun j x y hx hy => ?_⟩
    · rw [hc] at hx
      cases j with
      | zero => simp at hx; subst hx; exact h1
      | succ j => simp at hx
    · rw [hc] at hx
      cases j with
      | zero => simp at hx hy; subst hx; subst hy; exact hv
      | succ j => simp at hx
  cases hv with
  | agg hl h1 hV => simp only [cellsA, Option.some.injEq] at h; subst h; exact ⟨hl, h1, hV⟩
  | any => simp [cellsA] at h
  | tuple hl hV => simp [cellsA] at h
  | _ => simp only [cellsA, Option.some.injEq] at h; exact key rfl rfl h.symm

/-- An array of cells that stands for a list of abstract cells. -/
def CellsV (w : World) (M : Nat → Prop) (bs : Nat → Option Hd) (vs : Array Value) (cs : List AV) : Prop :=
  vs.size = cs.length ∧ (∀ (j : Nat) (x : Value), vs[j]? = some x → x.oneCell' = true) ∧ ∀ (j : Nat) x y, vs[j]? = some x → cs[j]? = some y → V w M bs x y

theorem foldl_set (off : Nat) : ∀ (l : List Value) (k : Nat) (cs : Array Value), off + k + l.length ≤ cs.size →
    ((l.zipIdx k).foldl (fun (cs : Array Value) (p : Value × Nat) => cs.setIfInBounds (off + p.2) p.1) cs).size = cs.size ∧
    ∀ j, ((l.zipIdx k).foldl (fun (cs : Array Value) (p : Value × Nat) => cs.setIfInBounds (off + p.2) p.1) cs)[j]? = if off + k ≤ j ∧ j < off + k + l.length then l[j - (off + k)]? else cs[j]?
  | [], k, cs, _ => by simp; intro j h1 h2; omega
  | x :: l, k, cs, h => by
    simp only [List.length_cons] at h
    simp only [List.zipIdx_cons, List.foldl_cons]
    obtain ⟨h1, h2⟩ := foldl_set off l (k + 1) (cs.setIfInBounds (off + k) x) (by simp; omega)
    refine ⟨by rw [h1]; simp, fun j => ?_⟩
    rw [h2 j]
    simp only [List.length_cons]
    by_cases hj : j = off + k
    · subst hj
      rw [if_neg (by omega), if_pos (by omega)]
      simp [show off + k < cs.size by omega]
    · by_cases hlt : off + (k + 1) ≤ j ∧ j < off + (k + 1) + l.length
      · rw [if_pos hlt, if_pos (by omega), show j - (off + k) = (j - (off + (k + 1))) + 1 by omega, List.getElem?_cons_succ]
      · rw [if_neg hlt, if_neg (by omega), Array.getElem?_setIfInBounds_ne (by omega)]

theorem splice_sound {w : World} {M : Nat → Prop} {bs : Nat → Option Hd} {vs : Array Value} {cs xs r : List AV} {off : Nat} {new : Array Value} (hc : CellsV w M bs vs cs) (hn : CellsV w M bs new xs) (h : spliceA cs off xs = some r) :
    CellsV w M bs (new.zipIdx.foldl (fun cs p => cs.setIfInBounds (off + p.2) p.1) vs) r ∧ off + new.size ≤ vs.size := by
  obtain ⟨l1, l2, l3⟩ := spliceA_spec cs off xs r h
  have hb : off + new.size ≤ vs.size := by rw [hc.1, hn.1]; exact l2
  have e : new.zipIdx.foldl (fun cs p => cs.setIfInBounds (off + p.2) p.1) vs = ((new.toList.zipIdx 0).foldl (fun (cs : Array Value) (p : Value × Nat) => cs.setIfInBounds (off + p.2) p.1) vs) := by
    rw [← Array.foldl_toList]; simp
  obtain ⟨f1, f2⟩ := foldl_set off new.toList 0 vs (by simpa using hb)
  rw [e]
  simp only [Nat.add_zero, Array.length_toList, Array.getElem?_toList] at f2
  refine ⟨⟨by rw [f1, hc.1, l1], fun j x hx => ?_, fun j x y hx hy => ?_⟩, hb⟩
  · rw [f2 j] at hx
    split at hx
    · exact hn.2.1 _ _ hx
    · exact hc.2.1 _ _ hx
  · rw [f2 j] at hx
    rw [l3 j] at hy
    rw [hn.1] at hx
    split at hx
    · rename_i hh; rw [if_pos hh] at hy; exact hn.2.2 _ _ _ hx hy
    · rename_i hh; rw [if_neg hh] at hy; exact hc.2.2 _ _ _ hx hy

def fillA (T : Nat → Option AV) (place : Nat → Option (Nat × Nat)) : List AV → List (Nat × Operand) → Option (List AV)
  | cs, [] => some cs
  | cs, (i, x) :: rest => match place i with
    | some (off, sz) => match evO T x with
      | some u => match cellsA u with
        | some new => match Nat.beq new.length sz with
          | true => match spliceA cs off new with
            | some cs' => fillA T place cs' rest
            | none => none
          | false => none
        | none => none
      | none => none
    | none => none

theorem fillA_sound {w : World} {M : Nat → Prop} {bs : Nat → Option Hd} {N : Nat} {T : Nat → Option AV} {a : Act} (hF : FRep w M bs N T a) {place : Nat → Option (Nat × Nat)} :
    ∀ (parts : List (Nat × Operand)) (vs : Array Value) (cs r : List AV), CellsV w M bs vs cs → fillA T place cs parts = some r →
      ∃ vs', Instr.fill place vs (parts.map fun (i, x) => (i, a.eval x)) = some vs' ∧ CellsV w M bs vs' r
  | [], vs, cs, r, hc, h => by simp only [fillA, Option.some.injEq] at h; subst h; exact ⟨vs, rfl, hc⟩
  | (i, x) :: rest, vs, cs, r, hc, h => by
    simp only [fillA] at h
    split at h
    · rename_i off sz hp
      split at h
      · rename_i u hu
        split at h
        · rename_i new hnew
          split at h
          · rename_i hsz
            split at h
            · rename_i cs' hs
              have hsz := Nat.eq_of_beq_eq_true hsz
              have hn : CellsV w M bs (a.eval x).cells new := cellsA_sound (evO_sound hF hu) hnew
              obtain ⟨hc', hb⟩ := splice_sound hc hn hs
              obtain ⟨vs', hf, hv⟩ := fillA_sound hF rest _ cs' r hc' h
              refine ⟨vs', ?_, hv⟩
              simp only [List.map_cons, Instr.fill, hp]
              rw [if_neg]
              · exact hf
              · simp only [hn.1, hsz, ne_eq, not_true_eq_false, decide_false, Bool.false_or, decide_eq_true_eq]
                have := hn.1
                omega
            · cases h
          · cases h
        · cases h
      · cases h
    · cases h

def avcs : List Value → Option (List AV)
  | [] => some []
  | v :: l => match avc v with
    | some u => match avcs l with
      | some r => some (u :: r)
      | none => none
    | none => none

theorem avcs_sound {w : World} {M : Nat → Prop} {bs : Nat → Option Hd} : ∀ (l : List Value) (cs : List AV), avcs l = some cs → CellsV w M bs l.toArray cs
  | [], cs, h => by simp only [avcs, Option.some.injEq] at h; subst h; exact ⟨rfl, fun j x hx => by simp at hx, fun j x y hx => by simp at hx⟩
  | v :: l, cs, h => by
    simp only [avcs] at h
    split at h
    · rename_i u hu
      split at h
      · rename_i r hr
        simp only [Option.some.injEq] at h
        subst h
        obtain ⟨h1, h2, h3⟩ := avcs_sound (w := w) (M := M) (bs := bs) l r hr
        refine ⟨by simpa using h1, fun j x hx => ?_, fun j x y hx hy => ?_⟩
        · cases j with
          | zero => simp at hx; subst hx; exact avc_one hu
          | succ j => exact h2 j x (by simpa using hx)
        · cases j with
          | zero => simp at hx hy; subst hx; subst hy; exact avc_sound hu
          | succ j => exact h3 j x y (by simpa using hx) (by simpa using hy)
      · cases h
    · cases h

/-- The cells of a type's zero value. -/
def zeroA (te : TE) (t : TypeId) : Option (List AV) := match lk te t with
  | some ti => avcs ti.zero.cells.toList
  | none => none

def placesA (te : TE) : List Field → Option (List (Nat × Nat))
  | [] => some []
  | f :: fs => match lk te f.type with
    | some ti => match placesA te fs with
      | some r => some ((f.offset, ti.sz) :: r)
      | none => none
    | none => none

theorem run_places {P : Program} {te : TE} (hte : TE.ok P te) (w : World) : ∀ (fs : List Field) (r : List (Nat × Nat)), placesA te fs = some r →
    (fs.mapM fun f => do pure (f.offset, ← sizeOf f.type) : Sem (List (Nat × Nat))).run P w = .ok r w
  | [], r, h => by simp only [placesA, Option.some.injEq] at h; subst h; rfl
  | f :: fs, r, h => by
    simp only [placesA] at h
    split at h
    · rename_i ti hti
      split at h
      · rename_i r' hr
        simp only [Option.some.injEq] at h
        subst h
        have := run_places hte w fs r' hr
        simp only [bind_pure_comp] at this
        simp [List.mapM_cons, run_size hte hti, this]
      · cases h
    · cases h

def buildA (te : TE) (T : Nat → Option AV) (t : TypeId) (parts : List (Nat × Operand)) : Option AV :=
  match lk te t with
  | some ti => match avcs ti.zero.cells.toList with
    | some z => match ti.desc with
      | .struct fs => match placesA te fs.toList with
        | some pl => match fillA T (fun i => pl[i]?) z parts with
          | some cs => some (.agg cs)
          | none => none
        | none => none
      | .array _ e => match lk te e with
        | some te' => match fillA T (fun i => some (i * te'.sz, te'.sz)) z parts with
          | some cs => some (.agg cs)
          | none => none
        | none => none
      | _ => none
    | none => none
  | none => none

theorem buildA_sound {P : Program} {te : TE} (hte : TE.ok P te) {w : World} {M : Nat → Prop} {bs : Nat → Option Hd} {N : Nat} {T : Nat → Option AV} {a : Act} (hF : FRep w M bs N T a) {t : TypeId} {parts : Array (Nat × Operand)} {u : AV}
    (h : buildA te T t parts.toList = some u) : ∃ v, (Instr.build t (parts.map fun (i, x) => (i, a.eval x))).run P w = .ok v w ∧ V w M bs v u := by
  unfold buildA at h
  split at h
  · rename_i ti hti
    have hz := run_zero hte (w := w) hti
    have hu := run_und hte (w := w) hti
    split at h
    · rename_i z hzz
      have hc : CellsV w M bs ti.zero.cells z := by simpa using avcs_sound (w := w) (M := M) (bs := bs) _ _ hzz
      split at h
      · rename_i fs hd
        rw [hd] at hu
        split at h
        · rename_i pl hpl
          split at h
          · rename_i cs hcs
            simp only [Option.some.injEq] at h
            subst h
            obtain ⟨vs, hv, hV⟩ := fillA_sound hF _ _ _ _ hc hcs
            refine ⟨.agg vs, ?_, .agg hV.1 hV.2.1 hV.2.2⟩
            have hp : (fs.mapM fun f => do pure (f.offset, ← sizeOf f.type) : Sem (Array (Nat × Nat))).run P w = .ok pl.toArray w := by
              have := run_places hte w _ _ hpl
              rw [Array.mapM_eq_mapM_toList]
              simp only [Sem.run_map, this, Result.andThen_ok]
            simp only [bind_pure_comp] at hp
            simp [Instr.build, hz, hu, hp, hv]
          · cases h
        · cases h
      · rename_i n e hd
        rw [hd] at hu
        split at h
        · rename_i te' hte'
          split at h
          · rename_i cs hcs
            simp only [Option.some.injEq] at h
            subst h
            obtain ⟨vs, hv, hV⟩ := fillA_sound hF _ _ _ _ hc hcs
            refine ⟨.agg vs, ?_, .agg hV.1 hV.2.1 hV.2.2⟩
            simp [Instr.build, hz, hu, run_size hte (w := w) hte', hv]
          · cases h
        · cases h
      · cases h
    · cases h
  · cases h

end Go.Eng

/- The engine, part 7: all operations that write nothing, in one function. -/
namespace Go.Eng

def isC : Operand → Bool
  | .const _ => true
  | _ => false

def guardA : AV → AV → Operand → Bool
  | .int _ _, _, _ => true
  | .str _, _, _ => true
  | .bool _, _, _ => true
  | .ptr _ _, _, _ => true
  | .iface _ _, _, _ => true
  | .nilIface, .nilIface, y => isC y
  | .nilIface, .iface _ _, _ => true
  | _, _, _ => false

def opA (te : TE) (op : BinOp) (t : TypeId) (y : Operand) (a b : AV) : Option (AV × Prop) :=
  match lk te t with
  | some ti => match a, b with
    | .agg xs, .agg ys => match isAggD ti.desc && ti.cmp with
      | true => match op, eqA te 8 t xs ys with
        | .eql, some r => some (.bool r, True)
        | .neq, some r => some (.bool (!r), True)
        | _, _ => none
      | false => none
    | a, b => match guardA a b y with
      | true => binA ti.desc op a b
      | false => none
  | none => none

theorem eqGuard_run {P : Program} {w : World} {M : Nat → Prop} {bs : Nat → Option Hd} {op : BinOp} {t : TypeId} {x y : Operand} {v u : Value} {a b : AV} (hv : V w M bs v a) (hu : V w M bs u b) (h : guardA a b y = true) :
    (eqGuard op t x y v u).run P w = .ok () w := by
  unfold guardA at h
  split at h
  · cases hv; simp [go_sem]
  · cases hv; simp [go_sem]
  · cases hv; simp [go_sem]
  · cases hv; simp [go_sem]
  · cases hv; simp [go_sem]
  · cases hv; cases hu
    cases y with
    | const c => simp [go_sem]
    | _ => simp [isC] at h
  · cases hv; cases hu; simp [go_sem]
  · cases h

theorem opA_sound {P : Program} {te : TE} (hte : TE.ok P te) (hn : ∀ t ti, lk te t = some ti → isAggD ti.desc = false → ti.sz = 1) {w : World} {M : Nat → Prop} {bs : Nat → Option Hd} {op : BinOp} {t : TypeId} {x y : Operand} {v u : Value} {a b r : AV} {vc : Prop}
    (hv : V w M bs v a) (hu : V w M bs u b) (h : opA te op t y a b = some (r, vc)) (hvc : vc) :
    ∃ z, (do eqGuard op t x y v u; binOp op t v u : Sem Value).run P w = .ok z w ∧ V w M bs z r := by
  unfold opA at h
  split at h
  · rename_i ti hti
    split at h
    · rename_i xs ys
      split at h
      · rename_i hc
        simp only [Bool.and_eq_true] at hc
        obtain ⟨hagg, hc⟩ := hc
        obtain ⟨hund, _, hcmp⟩ := hte t ti hti
        obtain ⟨hp, hg, _⟩ := hcmp hc
        cases hv with
        | agg l1 o1 V1 =>
          cases hu with
          | agg l2 o2 V2 =>
            rename_i vs us
            have key : ∀ r', eqA te 8 t xs ys = some r' → (Op.equalIn 10000 t (.agg vs) (.agg us)).run P w = .ok r' w := fun r' hr =>
              eqA_sound hte hn 8 9992 t ti _ _ _ _ r' hti (by rw [hagg]; exact ⟨vs, rfl, l1, o1, V1⟩) (by rw [hagg]; exact ⟨us, rfl, l2, o2, V2⟩) hr
            split at h
            · rename_i r' hr
              simp only [Option.some.injEq, Prod.mk.injEq] at h
              obtain ⟨rfl, rfl⟩ := h
              exact ⟨.bool r', by simp only [Sem.run_bind, run_eqGuard_agg w _ _ _ _ _ _ hg, Result.andThen_ok, run_eql_struct, key _ hr], .bool⟩
            · rename_i r' hr
              simp only [Option.some.injEq, Prod.mk.injEq] at h
              obtain ⟨rfl, rfl⟩ := h
              exact ⟨.bool (!r'), by simp only [Sem.run_bind, run_eqGuard_agg w _ _ _ _ _ _ hg, Result.andThen_ok, run_neq_struct, key _ hr], .bool⟩
            · cases h
      · cases h
    · split at h
      · rename_i hg
        obtain ⟨z, hz, hV⟩ := binA_sound hte hti hv hu h hvc
        exact ⟨z, by simp only [Sem.run_bind, eqGuard_run hv hu hg, Result.andThen_ok, hz], hV⟩
      · cases h
  · cases h


def pickA (cb : Bool) : AV → AV → Option AV
  | .bool x, .bool y => some (.bool (cond cb x y))
  | a, b => match cb with
    | true => some a
    | false => some b

theorem pickA_sound {w : World} {M : Nat → Prop} {bs : Nat → Option Hd} {cb : Bool} {x y : Value} {a b u : AV} (hx : V w M bs x a) (hy : V w M bs y b) (h : pickA cb a b = some u) : V w M bs (if cb then x else y) u := by
  unfold pickA at h
  split at h
  · simp only [Option.some.injEq] at h
    subst h
    cases hx; cases hy
    cases cb <;> exact .bool
  · cases cb <;> simp only [Option.some.injEq] at h <;> subst h
    · exact hy
    · exact hx

def evL (T : Nat → Option AV) : List Operand → Option (List AV)
  | [] => some []
  | x :: l => match evO T x with
    | some u => match evL T l with
      | some r => some (u :: r)
      | none => none
    | none => none

theorem evL_sound {w : World} {M : Nat → Prop} {bs : Nat → Option Hd} {N : Nat} {T : Nat → Option AV} {a : Act} (hF : FRep w M bs N T a) : ∀ (l : List Operand) (r : List AV), evL T l = some r →
    (l.map a.eval).length = r.length ∧ ∀ (j : Nat) v u, (l.map a.eval)[j]? = some v → r[j]? = some u → V w M bs v u
  | [], r, h => by simp only [evL, Option.some.injEq] at h; subst h; exact ⟨rfl, fun j v u h => by simp at h⟩
  | x :: l, r, h => by
    simp only [evL] at h
    split at h
    · rename_i u hu
      split at h
      · rename_i r' hr
        simp only [Option.some.injEq] at h
        subst h
        obtain ⟨h1, h2⟩ := evL_sound hF l r' hr
        refine ⟨by simpa using h1, fun j v u hv hu' => ?_⟩
        cases j with
        | zero => simp at hv hu'; subst hv; subst hu'; exact evO_sound hF hu
        | succ j => exact h2 j v u (by simpa using hv) (by simpa using hu')
      · cases h
    · cases h

def loadA (te : TE) (O : Nat → Option AObj) (t : TypeId) (u : AV) : Option (AV × Prop) :=
  match lk te t with
  | some ti => match ptrCells O u with
    | some (g, vc) => match isAggD ti.desc with
      | true => match takeN ti.sz g with
        | some cs => some (.agg cs, vc)
        | none => none
      | false => match g with
        | x :: _ => some (x, vc)
        | [] => none
    | none => none
  | none => none

theorem loadA_sound {C : Ctx} {te : TE} (hte : TE.ok C.P te) (hn : ∀ t ti, lk te t = some ti → isAggD ti.desc = false → ti.sz = 1) {E : Ent} {O : Nat → Option AObj} {bs : Nat → Option Hd} {w : World} (hW : WRep C E O bs w) {t : TypeId} {x : Value} {a u : AV} {vc : Prop}
    (hx : V w (MB E O bs) bs x a) (h : loadA te O t a = some (u, vc)) (hvc : vc) : ∃ v, (Instr.loadAt t x).run C.P w = .ok v w ∧ V w (MB E O bs) bs v u := by
  unfold loadA at h
  split at h
  · rename_i ti hti
    split at h
    · rename_i g vc' hg
      have hP : vc' → PCells w (MB E O bs) bs x g := fun hh => ptrCells_sound hW hx hg hh
      split at h
      · rename_i hd
        split at h
        · rename_i cs hcs
          simp only [Option.some.injEq, Prod.mk.injEq] at h
          obtain ⟨rfl, rfl⟩ := h
          obtain ⟨ad, cv, rfl, hc, h1, hV⟩ := hP hvc
          obtain ⟨hl, rfl⟩ := takeN_eq hcs
          have := run_loadVar hte hti (w := w) (a := ad) (cv := cv) (fun j hj => hc j (by omega)) (hn _ _ hti)
          rw [hd] at this
          refine ⟨_, by simpa [Instr.loadAt, Instr.sureAddr] using this, .agg ?_ (fun j v hv => ?_) (fun j v u hv hu => ?_)⟩
          · simp; omega
          · simp only [List.getElem?_toArray, List.getElem?_map] at hv
            rcases Nat.lt_or_ge j ti.sz with hj | hj
            · simp [hj] at hv; subst hv; exact h1 j (by omega)
            · simp [show ¬ j < ti.sz by omega] at hv
          · simp only [List.getElem?_toArray, List.getElem?_map] at hv
            rw [List.getElem?_take] at hu
            split at hu
            · rename_i hj
              simp [hj] at hv; subst hv; exact hV j u hu
            · cases hu
        · cases h
      · rename_i hd
        split at h
        · rename_i y l
          simp only [Option.some.injEq, Prod.mk.injEq] at h
          obtain ⟨rfl, rfl⟩ := h
          obtain ⟨ad, cv, rfl, hc, h1, hV⟩ := hP hvc
          have := run_loadVar hte hti (w := w) (a := ad) (cv := cv) (fun j hj => hc j (by rw [hn _ _ hti hd] at hj; simp; omega)) (hn _ _ hti)
          rw [hd] at this
          exact ⟨_, by simpa [Instr.loadAt, Instr.sureAddr] using this, hV 0 _ rfl⟩
        · cases h
    · cases h
  · cases h

def convA (te : TE) (src dst : TypeId) (u : AV) : Option (AV × Prop) :=
  match lk te src, lk te dst with
  | some _, some td => match u with
    | .int k n => match td.desc with
      | .int k' => match k, k' with
        | .i64, .u64 => some (.int .u64 (IntKind.u64.wrap n), True)
        | .u64, .u32 => some (.int .u32 (IntKind.u32.wrap n), True)
        | _, k' => some (.int k' n, inR k' n)
      | _ => none
    | .str s => match td.desc with
      | .string => some (.str s, True)
      | _ => none
    | _ => none
  | _, _ => none

theorem convA_sound {P : Program} {te : TE} (hte : TE.ok P te) {w : World} {M : Nat → Prop} {bs : Nat → Option Hd} {src dst : TypeId} {x : Value} {a u : AV} {vc : Prop} (hx : V w M bs x a) (h : convA te src dst a = some (u, vc)) (hvc : vc) :
    ∃ v, (convert src dst x).run P w = .ok v w ∧ V w M bs v u := by
  unfold convA at h
  split at h
  · rename_i ts td hts htd
    have h1 := run_und hte (w := w) hts
    have h2 := run_und hte (w := w) htd
    split at h
    · rename_i k n
      cases hx
      split at h
      · rename_i k' hd
        rw [hd] at h2
        have key : (convert src dst (.int k n)).run P w = .ok (.int k' (k'.wrap n)) w := by simp [convert, h1, h2, Conv.intToInt]
        split at h <;> simp only [Option.some.injEq, Prod.mk.injEq] at h <;> obtain ⟨rfl, rfl⟩ := h
        · exact ⟨_, key, .int⟩
        · exact ⟨_, key, .int⟩
        · rw [wrap_in hvc] at key
          exact ⟨_, key, .int⟩
      · cases h
    · rename_i s
      split at h
      · rename_i hd
        rw [hd] at h2
        simp only [Option.some.injEq, Prod.mk.injEq] at h
        obtain ⟨rfl, rfl⟩ := h
        have hx' := hx
        cases hx with
        | str hs =>
          rename_i b
          refine ⟨.string b, ?_, hx'⟩
          simp [convert, h1, h2]
      · cases h
    · cases h
  · cases h

def lenA (te : TE) (t : TypeId) (u : AV) : Option AV :=
  match lk te t with
  | some ti => match ti.desc, u with
    | .string, .str s => some (.int .i64 s.length)
    | .slice _, .view _ n _ => some (.int .i64 n)
    | .slice _, .own _ n => some (.int .i64 n)
    | .slice _, .sub _ _ _ n => some (.int .i64 n)
    | .slice _, .nil => some (.int .i64 0)
    | .slice _, .empty => some (.int .i64 0)
    | .array n _, _ => some (.int .i64 n)
    | _, _ => none
  | none => none

theorem lenA_sound {P : Program} {te : TE} (hte : TE.ok P te) {w : World} {M : Nat → Prop} {bs : Nat → Option Hd} {t ty : TypeId} {x : Value} {a u : AV} (hx : V w M bs x a) (h : lenA te t a = some u) :
    ∃ v, (Builtin.len_ #[t] ty #[x]).run P w = .ok v w ∧ V w M bs v u := by
  unfold lenA at h
  split at h
  · rename_i ti hti
    have hu := run_und hte (w := w) hti
    split at h <;> simp only [Option.some.injEq, reduceCtorEq] at h <;> subst h <;> rename_i hd <;> rw [hd] at hu
    · cases hx with
      | str hs =>
        rename_i l b
        refine ⟨.int .i64 b.size, by simp [Builtin.len_, hu, goInt], ?_⟩
        rw [show (b.size : Int) = (b.data.toList.length : Nat) by simp, hs]
        exact .int
    · cases hx; exact ⟨_, by simp [Builtin.len_, hu]; rfl, .int⟩
    · cases hx with
      | own => exact ⟨_, by simp [Builtin.len_, hu]; rfl, .int⟩
      | ownnil hb hn => subst hn; exact ⟨_, by simp [Builtin.len_, hu]; rfl, .int⟩
    · cases hx with
      | sub => exact ⟨_, by simp [Builtin.len_, hu]; rfl, .int⟩
      | subnil hb hn ho => subst hn; exact ⟨_, by simp [Builtin.len_, hu]; rfl, .int⟩
    · cases hx; exact ⟨_, by simp [Builtin.len_, hu]; rfl, .int⟩
    · cases hx; exact ⟨_, by simp [Builtin.len_, hu]; rfl, .int⟩
    · exact ⟨_, by simp [Builtin.len_, hu]; rfl, .int⟩
  · cases h

end Go.Eng

/- The engine, part 8: the one function for all operations that write nothing, and that it is right. -/
namespace Go.Eng

def partA (te : TE) (t : TypeId) (k : Nat) : AV → Option AV
  | .agg cs => match fieldOf te t k with
    | some f => match lk te f.type with
      | some ti => match takeN ti.sz (dropL f.offset cs) with
        | some a => match isAggD ti.desc with
          | true => some (.agg a)
          | false => match a with
            | [u] => some u
            | _ => none
        | none => none
      | none => none
    | none => none
  | _ => none

theorem partA_sound {P : Program} {te : TE} (hte : TE.ok P te) (hn : ∀ t ti, lk te t = some ti → isAggD ti.desc = false → ti.sz = 1) {w : World} {M : Nat → Prop} {bs : Nat → Option Hd} {t : TypeId} {k : Nat} {x : Value} {a u : AV}
    (hx : V w M bs x a) (h : partA te t k a = some u) : ∃ v, (Instr.field t x k).run P w = .ok v w ∧ V w M bs v u := by
  unfold partA at h
  split at h
  · rename_i cs
    cases hx with
    | agg l1 o1 V1 =>
      rename_i vs
      split at h
      · rename_i f hf
        unfold fieldOf at hf
        split at hf
        · rename_i ts hts
          have hu := run_und hte (w := w) hts
          split at hf
          · rename_i fs hd
            rw [hd] at hu
            have hf' : fs[k]? = some f := by rw [← hf]; simp
            split at h
            · rename_i ti hti
              split at h
              · rename_i b hb
                obtain ⟨v, hv, hcv⟩ := run_part hte hti (hn _ _ hti) l1 o1 V1 hb
                have key : (Instr.field t (.agg vs) k).run P w = .ok v w := by simp [Instr.field, hu, hf', asAgg, hv]
                refine ⟨v, key, ?_⟩
                split at h
                · rename_i hag
                  simp only [Option.some.injEq] at h
                  subst h
                  rw [hag] at hcv
                  obtain ⟨vs', rfl, a1, a2, a3⟩ := hcv
                  exact .agg a1 a2 a3
                · rename_i hag
                  rw [hag] at hcv
                  obtain ⟨u', rfl, hV⟩ := hcv
                  simp only [Option.some.injEq] at h
                  subst h
                  exact hV
              · cases h
            · cases h
          · cases hf
        · cases hf
      · cases h
  · cases h

def indexStrA (te : TE) (t : TypeId) (u : AV) (i : AV) : Option (AV × Prop) :=
  match lk te t with
  | some ti => match ti.desc, u, i with
    | .string, .str s, .int _ k => some (.int .u8 (s.getD k.toNat 0).toNat, 0 ≤ k ∧ k < s.length)
    | _, _, _ => none
  | none => none

theorem indexStrA_sound {P : Program} {te : TE} (hte : TE.ok P te) {w : World} {M : Nat → Prop} {bs : Nat → Option Hd} {t : TypeId} {x y : Value} {a b u : AV} {vc : Prop} (hx : V w M bs x a) (hy : V w M bs y b)
    (h : indexStrA te t a b = some (u, vc)) (hvc : vc) : ∃ v, (Instr.index t x y).run P w = .ok v w ∧ V w M bs v u := by
  unfold indexStrA at h
  split at h
  · rename_i ti hti
    have hu := run_und hte (w := w) hti
    split at h
    · rename_i s kd k hd
      rw [hd] at hu
      simp only [Option.some.injEq, Prod.mk.injEq] at h
      obtain ⟨rfl, rfl⟩ := h
      cases hx with
      | str hs =>
        cases hy
        rename_i b
        obtain ⟨h0, h1⟩ := hvc
        have hlt : k.toNat < b.size := by
          have : b.size = s.length := by rw [← hs]; simp
          omega
        refine ⟨.int .u8 (b[k.toNat]'hlt).toNat, ?_, ?_⟩
        · have e : b[k.toNat]? = some (b[k.toNat]'hlt) := by simp [hlt]
          simp [Instr.index, asIntOf, hu, h0, e]
        · have e : s.getD k.toNat 0 = b[k.toNat]'hlt := by
            rw [← hs]
            simp only [List.getD_eq_getElem?_getD, Array.getElem?_toList]
            rw [Array.getElem?_eq_getElem (show k.toNat < b.data.size from hlt)]
            rfl
          rw [e]
          exact .int
    · cases h
  · cases h

def evalPure (te : TE) (T : Nat → Option AV) (O : Nat → Option AObj) : Op → Option (AV × Prop)
  | .move x => match evO T x with
    | some u => some (u, True)
    | none => none
  | .assign x => match evO T x with
    | some u => some (u, True)
    | none => none
  | .pick c a b => match evO T c with
    | some (.bool cb) => match evO T a, evO T b with
      | some x, some y => match pickA cb x y with
        | some u => some (u, True)
        | none => none
      | _, _ => none
    | _ => none
  | .load t x => match evO T x with
    | some u => loadA te O t u
    | none => none
  | .nilCheck x => match evO T x with
    | some (.ptr r o) => some (.ptr r o, True)
    | some (.eptr r s i o) => some (.eptr r s i o, True)
    | some (.vptr g) => some (.vptr g, True)
    | _ => none
  | .binOp op t x y _ => match evO T x, evO T y with
    | some a, some b => opA te op t y a b
    | _, _ => none
  | .unOp .not _ x => match evO T x with
    | some (.bool b) => some (.bool (!b), True)
    | _ => none
  | .unOp .neg _ x => match evO T x with
    | some (.int k n) => some (.int k (0 - n), inR k (0 - n))
    | _ => none
  | .convert src dst x => match evO T x with
    | some u => convA te src dst u
    | none => none
  | .fieldAddr t x f => match evO T x with
    | some u => match fieldA te t u f with
      | some r => some (r, True)
      | none => none
    | none => none
  | .field t x f => match evO T x with
    | some u => match partA te t f u with
      | some r => some (r, True)
      | none => none
    | none => none
  | .indexAddr t x i => match evO T x, evO T i with
    | some u, some (.int _ k) => indexA te t u k
    | _, _ => none
  | .index t x i => match evO T x, evO T i with
    | some u, some k => indexStrA te t u k
    | _, _ => none
  | .slice t x lo hi mx => match evO T x, evL T lo.toList, evL T hi.toList, evL T mx.toList with
    | some u, some l, some h, some m => sliceA te t u l.head? h.head? m.head?
    | _, _, _, _ => none
  | .build t parts => match buildA te T t parts.toList with
    | some u => some (u, True)
    | none => none
  | .extract x i => match evO T x with
    | some (.tuple vs) => match vs[i]? with
      | some u => some (u, True)
      | none => none
    | _ => none
  | .makeFunc (.func f) first cap => match first.toList with
    | [] => match evL T cap.toList with
      | some l => some (.func f l, True)
      | none => none
    | _ => none
  | .makeInterface t x => match evO T x, lk te t with
    | some u, some ti => match ti.desc with
      | .interface _ => none
      | _ => some (.iface t u, True)
    | _, _ => none
  | .call { callee := .builtin .len, args, argTypes } => match argTypes.toList, args.toList with
    | [t], [x] => match evO T x with
      | some u => match lenA te t u with
        | some r => some (r, True)
        | none => none
      | none => none
    | _, _ => none
  | .call { callee := .builtin .min, args, argTypes := _ } => match args.toList with
    | [x, y] => match evO T x, evO T y with
      | some (.int k a), some (.int _ b) => some (.int k (min a b), True)
      | _, _ => none
    | _ => none
  | .call { callee := .builtin .max, args, argTypes := _ } => match args.toList with
    | [x, y] => match evO T x, evO T y with
      | some (.int k a), some (.int _ b) => some (.int k (max a b), True)
      | _, _ => none
    | _ => none
  | _ => none

theorem evalPure_sound {C : Ctx} {te : TE} (hte : TE.ok C.P te) (hn : ∀ t ti, lk te t = some ti → isAggD ti.desc = false → ti.sz = 1) {E : Ent} {O : Nat → Option AObj} {bs : Nat → Option Hd} {w : World} (hW : WRep C E O bs w)
    {N : Nat} {T : Nat → Option AV} {a : Act} (hF : FRep w (MB E O bs) bs N T a) {o : Oper} {u : AV} {vc : Prop} (h : evalPure te T O o.op = some (u, vc)) (hvc : vc) :
    ∃ v, (execOp a.eval o).run C.P w = .ok (.value v) w ∧ V w (MB E O bs) bs v u := by
  have ev := fun {x : Operand} {u : AV} (h : evO T x = some u) => evO_sound hF h
  have wrap : ∀ (s : Sem Value) v, s.run C.P w = .ok v w → (do pure (.value (← s)) : Sem Next).run C.P w = .ok (.value v) w := by
    intro s v hs; simp [hs]
  obtain ⟨dst, op, ty, pos, after, guard⟩ := o
  simp only at h
  unfold evalPure at h
  split at h
  · split at h <;> simp only [Option.some.injEq, Prod.mk.injEq, reduceCtorEq] at h
    obtain ⟨rfl, rfl⟩ := h
    rename_i hu
    exact ⟨_, rfl, ev hu⟩
  · split at h <;> simp only [Option.some.injEq, Prod.mk.injEq, reduceCtorEq] at h
    obtain ⟨rfl, rfl⟩ := h
    rename_i hu
    exact ⟨_, rfl, ev hu⟩
  · rename_i c x y
    split at h
    · rename_i cb hc
      split at h
      · rename_i ua ub ha hb
        split at h <;> simp only [Option.some.injEq, Prod.mk.injEq, reduceCtorEq] at h
        obtain ⟨rfl, rfl⟩ := h
        rename_i hp
        have hV := pickA_sound (ev ha) (ev hb) hp
        refine ⟨_, ?_, hV⟩
        have hcb := ev hc
        generalize hz : a.eval c = z at hcb
        cases hcb
        simp [execOp, hz, asBool]
      · cases h
    · cases h
  · split at h
    · rename_i hu
      obtain ⟨v, h1, h2⟩ := loadA_sound hte hn hW (ev hu) h hvc
      exact ⟨v, wrap _ _ h1, h2⟩
    · cases h
  · rename_i x
    split at h <;> simp only [Option.some.injEq, Prod.mk.injEq, reduceCtorEq] at h
    all_goals
      obtain ⟨rfl, rfl⟩ := h
      rename_i hu
      have hV := ev hu
      refine ⟨a.eval x, ?_, hV⟩
      generalize hz : a.eval x = z at hV
      cases hV
      simp [execOp, hz]
  · split at h
    · rename_i ha hb
      obtain ⟨v, h1, h2⟩ := opA_sound hte hn (ev ha) (ev hb) h hvc
      exact ⟨v, wrap _ _ h1, h2⟩
    · cases h
  · rename_i x
    split at h <;> simp only [Option.some.injEq, Prod.mk.injEq, reduceCtorEq] at h
    obtain ⟨rfl, rfl⟩ := h
    rename_i hu
    have hV := ev hu
    generalize hz : a.eval x = z at hV
    cases hV
    exact ⟨.bool _, by simp [execOp, hz, Op.unary], .bool⟩
  · rename_i x
    split at h <;> simp only [Option.some.injEq, Prod.mk.injEq, reduceCtorEq] at h
    obtain ⟨rfl, rfl⟩ := h
    rename_i hu
    have hV := ev hu
    generalize hz : a.eval x = z at hV
    cases hV
    refine ⟨.int _ _, ?_, .int⟩
    have e := wrap_in hvc
    simp [execOp, hz, Op.unary, Op.intArith] at e ⊢
    exact e
  · split at h
    · rename_i hu
      obtain ⟨v, h1, h2⟩ := convA_sound hte (ev hu) h hvc
      exact ⟨v, wrap _ _ h1, h2⟩
    · cases h
  · split at h
    · rename_i hu
      split at h <;> simp only [Option.some.injEq, Prod.mk.injEq, reduceCtorEq] at h
      obtain ⟨rfl, rfl⟩ := h
      rename_i hf
      obtain ⟨v, h1, h2⟩ := fieldA_sound hte (ev hu) hf
      exact ⟨v, wrap _ _ h1, h2⟩
    · cases h
  · split at h
    · rename_i hu
      split at h <;> simp only [Option.some.injEq, Prod.mk.injEq, reduceCtorEq] at h
      obtain ⟨rfl, rfl⟩ := h
      rename_i hf
      obtain ⟨v, h1, h2⟩ := partA_sound hte hn (ev hu) hf
      exact ⟨v, wrap _ _ h1, h2⟩
    · cases h
  · rename_i t x i
    split at h
    · rename_i hu hk
      have hV := ev hk
      generalize hz : a.eval i = z at hV
      cases hV
      obtain ⟨v, h1, h2⟩ := indexA_sound hte (ev hu) h hvc
      exact ⟨v, wrap _ _ (by rw [hz]; exact h1), h2⟩
    · cases h
  · split at h
    · rename_i hu hk
      obtain ⟨v, h1, h2⟩ := indexStrA_sound hte (ev hu) (ev hk) h hvc
      exact ⟨v, wrap _ _ h1, h2⟩
    · cases h
  · rename_i t x lo hi mx
    split at h
    · rename_i l h' m hu hl hh hm
      have one : ∀ (o : Option Operand) (r : List AV), evL T o.toList = some r → (∀ v, o.map a.eval = some v → ∃ u, r.head? = some u ∧ V w (MB E O bs) bs v u) ∧ (o.map a.eval = none → r.head? = none) := by
        intro o r hr
        cases o with
        | none =>
          simp only [Option.toList, evL, Option.some.injEq] at hr
          subst hr
          exact ⟨fun v hv => by simp at hv, fun _ => rfl⟩
        | some y =>
          simp only [Option.toList, evL] at hr
          split at hr
          · rename_i u' hu'
            simp only [Option.some.injEq] at hr
            subst hr
            exact ⟨fun v hv => by simp at hv; subst hv; exact ⟨u', rfl, ev hu'⟩, fun hv => by simp at hv⟩
          · cases hr
      obtain ⟨l1, l2⟩ := one lo l hl
      obtain ⟨h1, h2⟩ := one hi h' hh
      obtain ⟨m1, m2⟩ := one mx m hm
      obtain ⟨v, k1, k2⟩ := sliceA_sound hte (ev hu) l1 l2 h1 h2 m1 m2 h hvc
      exact ⟨v, wrap _ _ k1, k2⟩
    · cases h
  · split at h <;> simp only [Option.some.injEq, Prod.mk.injEq, reduceCtorEq] at h
    obtain ⟨rfl, rfl⟩ := h
    rename_i hb
    obtain ⟨v, h1, h2⟩ := buildA_sound hte hF hb
    exact ⟨v, wrap _ _ h1, h2⟩
  · rename_i x i
    split at h
    · rename_i vs hu
      split at h <;> simp only [Option.some.injEq, Prod.mk.injEq, reduceCtorEq] at h
      obtain ⟨rfl, rfl⟩ := h
      rename_i hi
      have hV := ev hu
      generalize hz : a.eval x = z at hV
      cases hV with
      | tuple hl hv =>
        rename_i cs
        have hlt : i < cs.size := by rw [hl]; exact (List.getElem?_eq_some_iff.1 hi).1
        refine ⟨cs[i], ?_, hv i _ _ (by simp [hlt]) hi⟩
        simp [execOp, hz, Instr.extract, hlt]
    · cases h
  · rename_i f first cap
    split at h
    · rename_i hfirst
      split at h <;> simp only [Option.some.injEq, Prod.mk.injEq, reduceCtorEq] at h
      obtain ⟨rfl, rfl⟩ := h
      rename_i hl
      obtain ⟨h1, h2⟩ := evL_sound hF _ _ hl
      refine ⟨.func (.func f) #[] (cap.map a.eval), ?_, .func (by simpa using h1) (fun j v u hv hu => h2 j v u (by simpa using hv) hu)⟩
      have : first = #[] := by
        apply Array.toList_inj.1
        simpa using hfirst
      subst this
      simp [execOp, Instr.makeFunc]
    · cases h
  · rename_i t x
    split at h
    · rename_i ti hu hti
      have hd := run_und hte (w := w) hti
      split at h
      · cases h
      · rename_i hne
        simp only [Option.some.injEq, Prod.mk.injEq] at h
        obtain ⟨rfl, rfl⟩ := h
        refine ⟨.iface t (a.eval x), ?_, .iface (ev hu)⟩
        simp only [execOp, Instr.makeInterface, Sem.run_bind, hd, Result.andThen_ok]
        rfl
    · cases h
  · rename_i args argTypes
    split at h
    · rename_i t x ht hx
      split at h
      · rename_i hu
        split at h <;> simp only [Option.some.injEq, Prod.mk.injEq, reduceCtorEq] at h
        obtain ⟨rfl, rfl⟩ := h
        rename_i hl
        have e1 : argTypes = #[t] := by apply Array.toList_inj.1; simpa using ht
        have e2 : args = #[x] := by apply Array.toList_inj.1; simpa using hx
        subst e1; subst e2
        obtain ⟨v, h1, h2⟩ := lenA_sound (ty := ty) hte (ev hu) hl
        refine ⟨v, ?_, h2⟩
        simp [execOp, resolve, invoke, builtin, h1]
      · cases h
    · cases h
  · rename_i args argTypes
    split at h
    · rename_i x y hx
      split at h <;> simp only [Option.some.injEq, Prod.mk.injEq, reduceCtorEq] at h
      obtain ⟨rfl, rfl⟩ := h
      rename_i ha hb
      have e2 : args = #[x, y] := by apply Array.toList_inj.1; simpa using hx
      subst e2
      have hV := ev ha
      have hV' := ev hb
      generalize hz : a.eval x = z at hV
      generalize hz' : a.eval y = z' at hV'
      cases hV; cases hV'
      refine ⟨.int _ _, ?_, .int⟩
      simp [execOp, resolve, invoke, builtin, Builtin.min_, hz, hz', Builtin.min2, List.foldlM]
      omega
    · cases h
  · rename_i args argTypes
    split at h
    · rename_i x y hx
      split at h <;> simp only [Option.some.injEq, Prod.mk.injEq, reduceCtorEq] at h
      obtain ⟨rfl, rfl⟩ := h
      rename_i ha hb
      have e2 : args = #[x, y] := by apply Array.toList_inj.1; simpa using hx
      subst e2
      have hV := ev ha
      have hV' := ev hb
      generalize hz : a.eval x = z at hV
      generalize hz' : a.eval y = z' at hV'
      cases hV; cases hV'
      refine ⟨.int _ _, ?_, .int⟩
      simp [execOp, resolve, invoke, builtin, Builtin.max_, hz, hz', Builtin.max2, List.foldlM]
      omega
    · cases h
  · cases h

end Go.Eng

/- The engine, part 9: new objects, and stores. -/
namespace Go.Eng

def up {α : Type} (f : Nat → Option α) (r : Nat) (x : α) : Nat → Option α := fun i => if r = i then some x else f i

theorem up_same {α : Type} (f : Nat → Option α) (r : Nat) (x : α) : up f r x r = some x := by simp [up]
theorem up_other {α : Type} (f : Nat → Option α) (r : Nat) (x : α) {i : Nat} (h : r ≠ i) : up f r x i = f i := by simp [up, h]
theorem lk_up {α : Type} (r : Nat) (x : α) (l : List (Nat × α)) : lk ((r, x) :: l) = up (lk l) r x := by funext i; rw [lk_cons]; rfl

section
variable {C : Ctx} {E : Ent} {O : Nat → Option AObj} {bs : Nat → Option Hd} {w : World}

/-- A new block, for a new object. -/
theorem WRep.new (hW : WRep C E O bs w) {r : Nat} (hb : bs r = none) {w1 : World} (h1 : w1.heap = w.heap) (h2 : w1.os = w.os) (h3 : w1.tape = w.tape) (h4 : w1.output = w.output)
    (ob : Obj) (o : AObj) (c : Nat) (hfr : ∀ t sz n f, o ≠ .row t sz n f true)
    (hok : Step w (MB E O bs) bs (w1.alloc ob) (MB E (up O r o) (up bs r (.blk w.heap.size c))) (up bs r (.blk w.heap.size c)) → (w1.alloc ob).heap[w.heap.size]? = some ob →
      ObjOK (w1.alloc ob) (MB E (up O r o) (up bs r (.blk w.heap.size c))) (up bs r (.blk w.heap.size c)) r o) :
    Step w (MB E O bs) bs (w1.alloc ob) (MB E (up O r o) (up bs r (.blk w.heap.size c))) (up bs r (.blk w.heap.size c)) ∧ WRep C E (up O r o) (up bs r (.blk w.heap.size c)) (w1.alloc ob) := by
  have hs1 : w1.heap.size = w.heap.size := by rw [h1]
  have hnew : (w1.alloc ob).heap[w.heap.size]? = some ob := by rw [← hs1]; exact heap_alloc_new w1 ob
  have hsz : (w1.alloc ob).heap.size = w.heap.size + 1 := by simp [hs1]
  have old : ∀ i b c', bs i = some (.blk b c') → b ≠ w.heap.size := fun i b c' h => by have := hW.lt i b c' h; omega
  refine hW.next (fun _ => False) (fun i h hi => ?_) (fun i b c' hi => ?_) (fun b hb => hb.elim) (fun b hb _ => ?_) (by omega) (fun b hm => ?_) (fun hS i o' ho => ?_) (fun i j o1 o2 b c1 c2 hi hj m1 m2 bi bj => ?_)
    (fun i t sz n f b c' ho hb' => ?_) h2 h3 h4
  · rw [up_other]
    · exact hi
    · rintro rfl; rw [hb] at hi; cases hi
  · by_cases hr : r = i
    · subst hr; rw [up_same] at hi; injection hi with hi; injection hi with e1 e2; subst e1
      right; left; omega
    · rw [up_other _ _ _ hr] at hi; exact .inl hi
  · rw [heap_alloc_old w1 ob b (by omega), h1]
  · obtain ⟨i, o', c', ho, hm, hbi⟩ := hm
    by_cases hr : r = i
    · subst hr; rw [up_same] at hbi; injection hbi with hbi; injection hbi with e1 e2; subst e1
      right; omega
    · rw [up_other _ _ _ hr] at ho hbi; exact .inl ⟨i, o', c', ho, hm, hbi⟩
  · by_cases hr : r = i
    · subst hr; rw [up_same] at ho; injection ho with ho; subst ho
      exact .inr (hok hS hnew)
    · rw [up_other _ _ _ hr] at ho; exact .inl ⟨ho, fun _ _ _ h => h⟩
  · by_cases hri : r = i
    · subst hri
      by_cases hrj : r = j
      · exact hrj
      · rw [up_same] at bi; injection bi with bi; injection bi with e1 e2; subst e1
        rw [up_other _ _ _ hrj] at bj
        exact absurd rfl (old _ _ _ bj)
    · rw [up_other _ _ _ hri] at hi bi
      by_cases hrj : r = j
      · subst hrj
        rw [up_same] at bj; injection bj with bj; injection bj with e1 e2; subst e1
        exact absurd rfl (old _ _ _ bi)
      · rw [up_other _ _ _ hrj] at hj bj
        exact hW.sep i j o1 o2 b c1 c2 hi hj m1 m2 bi bj
  · by_cases hr : r = i
    · subst hr; rw [up_same] at ho; injection ho with ho; exact absurd ho (hfr _ _ _ _)
    · rw [up_other _ _ _ hr] at ho hb'
      have hf := hW.frz i t sz n f b c' ho hb'
      refine ⟨fun hm => ?_, fun h => hf (.inl h)⟩
      obtain ⟨j, o', c'', ho', hm', hbj⟩ := hm
      by_cases hrj : r = j
      · subst hrj
        rw [up_same] at hbj; injection hbj with hbj; injection hbj with e1 e2; subst e1
        exact old _ _ _ hb' rfl
      · rw [up_other _ _ _ hrj] at ho' hbj
        exact hf (.inr ⟨j, o', c'', ho', hm', hbj⟩)

/-- A live object of our own changes in its place. -/
theorem WRep.modify (hW : WRep C E O bs w) {x : Nat} {ox o : AObj} (hO : O x = some ox) (hm : ox.mut = true) {bx cx : Nat} (hb : bs x = some (.blk bx cx)) {w' : World}
    (hheap : ∀ b, b ≠ bx → w'.heap[b]? = w.heap[b]?) (hsize : w'.heap.size = w.heap.size) (h2 : w'.os = w.os) (h3 : w'.tape = w.tape) (h4 : w'.output = w.output) (hmo : o.mut = true)
    (hok : Step w (MB E O bs) bs w' (MB E (up O x o) bs) bs → ObjOK w' (MB E (up O x o) bs) bs x o) :
    Step w (MB E O bs) bs w' (MB E (up O x o) bs) bs ∧ WRep C E (up O x o) bs w' := by
  have hxm : mutB O bs bx := ⟨x, ox, cx, hO, hm, hb⟩
  have back : ∀ b, mutB (up O x o) bs b → mutB O bs b := by
    rintro b ⟨i, o', c', ho, hm', hbi⟩
    by_cases hr : x = i
    · subst hr; exact ⟨x, ox, c', hO, hm, hbi⟩
    · rw [up_other _ _ _ hr] at ho; exact ⟨i, o', c', ho, hm', hbi⟩
  refine hW.next (fun b => b = bx) (fun i h hi => hi) (fun i b c' hi => .inl hi) (fun b hb' => by subst hb'; exact hxm) (fun b _ hne => hheap b hne) (by omega) (fun b hb' => .inl (back b hb')) (fun hS i o' ho => ?_)
    (fun i j o1 o2 b c1 c2 hi hj m1 m2 bi bj => ?_) (fun i t sz n f b c' ho hb' => ?_) h2 h3 h4
  · by_cases hr : x = i
    · subst hr; rw [up_same] at ho; injection ho with ho; subst ho
      exact .inr (hok hS)
    · rw [up_other _ _ _ hr] at ho
      cases hmi : o'.mut with
      | true =>
        refine .inl ⟨ho, fun b c' hbi e => ?_⟩
        subst e
        exact hr (hW.sep x i ox o' b cx c' hO ho hm hmi hb hbi)
      | false =>
        cases o' with
        | dead => exact .inr trivial
        | row t sz n f fr =>
          have : fr = true := by simpa [AObj.mut] using hmi
          subst this
          refine .inl ⟨ho, fun b c' hbi e => ?_⟩
          subst e
          exact hW.frz i t sz n f b c' ho hbi (.inr hxm)
        | _ => simp [AObj.mut] at hmi
  · have bk : ∀ {k : Nat} {o' : AObj}, up O x o k = some o' → o'.mut = true → ∃ o'', O k = some o'' ∧ o''.mut = true := by
      intro k o' hk hmk
      by_cases hr : x = k
      · subst hr; exact ⟨ox, hO, hm⟩
      · rw [up_other _ _ _ hr] at hk; exact ⟨o', hk, hmk⟩
    obtain ⟨o1', h1, m1'⟩ := bk hi m1
    obtain ⟨o2', h2', m2'⟩ := bk hj m2
    exact hW.sep i j o1' o2' b c1 c2 h1 h2' m1' m2' bi bj
  · by_cases hr : x = i
    · subst hr; rw [up_same] at ho; injection ho with ho; subst ho; simp [AObj.mut] at hmo
    · rw [up_other _ _ _ hr] at ho
      have hf := hW.frz i t sz n f b c' ho hb'
      exact ⟨fun h => hf (.inr (back b h)), fun h => hf (.inl h)⟩

/-- An object is given up: nobody writes it any more, and nobody reads it. -/
theorem WRep.kill (hW : WRep C E O bs w) (x : Nat) : Step w (MB E O bs) bs w (MB E (up O x .dead) bs) bs ∧ WRep C E (up O x .dead) bs w := by
  have back : ∀ b, mutB (up O x .dead) bs b → mutB O bs b := by
    rintro b ⟨i, o', c', ho, hm', hbi⟩
    by_cases hr : x = i
    · subst hr; rw [up_same] at ho; injection ho with ho; subst ho; simp [AObj.mut] at hm'
    · rw [up_other _ _ _ hr] at ho; exact ⟨i, o', c', ho, hm', hbi⟩
  refine hW.next (fun _ => False) (fun i h hi => hi) (fun i b c' hi => .inl hi) (fun b hb' => hb'.elim) (fun b _ _ => rfl) (Nat.le_refl _) (fun b hb' => .inl (back b hb')) (fun hS i o' ho => ?_)
    (fun i j o1 o2 b c1 c2 hi hj m1 m2 bi bj => ?_) (fun i t sz n f b c' ho hb' => ?_) rfl rfl rfl
  · by_cases hr : x = i
    · subst hr; rw [up_same] at ho; injection ho with ho; subst ho; exact .inr trivial
    · rw [up_other _ _ _ hr] at ho; exact .inl ⟨ho, fun _ _ _ h => h⟩
  · have bk : ∀ {k : Nat} {o' : AObj}, up O x .dead k = some o' → o'.mut = true → O k = some o' := by
      intro k o' hk hmk
      by_cases hr : x = k
      · subst hr; rw [up_same] at hk; injection hk with hk; subst hk; simp [AObj.mut] at hmk
      · rw [up_other _ _ _ hr] at hk; exact hk
    exact hW.sep i j o1 o2 b c1 c2 (bk hi m1) (bk hj m2) m1 m2 bi bj
  · by_cases hr : x = i
    · subst hr; rw [up_same] at ho; injection ho with ho; cases ho
    · rw [up_other _ _ _ hr] at ho
      have hf := hW.frz i t sz n f b c' ho hb'
      exact ⟨fun h => hf (.inr (back b h)), fun h => hf (.inl h)⟩

/-- A row is frozen: nobody writes it any more. -/
theorem WRep.freeze (hW : WRep C E O bs w) {x : Nat} {t : TypeId} {sz n : Nat} {f : Nat → List AV} {fr : Bool} (hx : O x = some (.row t sz n f fr)) :
    Step w (MB E O bs) bs w (MB E (up O x (.row t sz n f true)) bs) bs ∧ WRep C E (up O x (.row t sz n f true)) bs w := by
  have back : ∀ b, mutB (up O x (.row t sz n f true)) bs b → mutB O bs b ∧ ∀ c, bs x = some (.blk b c) → fr = true := by
    rintro b ⟨i, o', c', ho, hm', hbi⟩
    by_cases hr : x = i
    · subst hr; rw [up_same] at ho; injection ho with ho; subst ho; simp [AObj.mut] at hm'
    · rw [up_other _ _ _ hr] at ho
      refine ⟨⟨i, o', c', ho, hm', hbi⟩, fun c hbx => ?_⟩
      cases fr with
      | true => rfl
      | false => exact absurd (hW.sep x i _ o' b c c' hx ho rfl hm' hbx hbi) hr
  refine hW.next (fun _ => False) (fun i h hi => hi) (fun i b c' hi => .inl hi) (fun b hb' => hb'.elim) (fun b _ _ => rfl) (Nat.le_refl _) (fun b hb' => .inl (back b hb').1) (fun hS i o' ho => ?_)
    (fun i j o1 o2 b c1 c2 hi hj m1 m2 bi bj => ?_) (fun i t' sz' n' f' b c' ho hb' => ?_) rfl rfl rfl
  · by_cases hr : x = i
    · subst hr; rw [up_same] at ho; injection ho with ho; subst ho
      exact .inr ((hW.obj x _ hx).step hS fun _ _ _ => rfl)
    · rw [up_other _ _ _ hr] at ho; exact .inl ⟨ho, fun _ _ _ h => h⟩
  · have bk : ∀ {k : Nat} {o' : AObj}, up O x (.row t sz n f true) k = some o' → o'.mut = true → O k = some o' := by
      intro k o' hk hmk
      by_cases hr : x = k
      · subst hr; rw [up_same] at hk; injection hk with hk; subst hk; simp [AObj.mut] at hmk
      · rw [up_other _ _ _ hr] at hk; exact hk
    exact hW.sep i j o1 o2 b c1 c2 (bk hi m1) (bk hj m2) m1 m2 bi bj
  · by_cases hr : x = i
    · subst hr
      cases fr with
      | true =>
        have hf := hW.frz x t sz n f b c' hx hb'
        exact ⟨fun h => hf (.inr (back b h).1), fun h => hf (.inl h)⟩
      | false =>
        refine ⟨fun h => ?_, fun h => hW.out b ⟨x, _, c', hx, rfl, hb'⟩ h⟩
        cases (back b h).2 c' hb'
    · rw [up_other _ _ _ hr] at ho
      have hf := hW.frz i t' sz' n' f' b c' ho hb'
      exact ⟨fun h => hf (.inr (back b h).1), fun h => hf (.inl h)⟩
end

end Go.Eng

/- The engine, part 10: append. -/
namespace Go.Eng

section
variable {C : Ctx} {E : Ent} {O : Nat → Option AObj} {bs : Nat → Option Hd} {w : World}

/-- An object is given up, and a new one takes its block. -/
theorem WRep.move (hW : WRep C E O bs w) {x : Nat} {ox : AObj} (hx : O x = some ox) (hm : ox.mut = true) {bx cx : Nat} (hbx : bs x = some (.blk bx cx)) {r : Nat} (hO : O r = none) (hb : bs r = none) {w' : World}
    (hheap : ∀ b, b ≠ bx → w'.heap[b]? = w.heap[b]?) (hsize : w'.heap.size = w.heap.size) (h2 : w'.os = w.os) (h3 : w'.tape = w.tape) (h4 : w'.output = w.output) (o : AObj) (hmo : o.mut = true) (c : Nat)
    (hok : Step w (MB E O bs) bs w' (MB E (up (up O x .dead) r o) (up bs r (.blk bx c))) (up bs r (.blk bx c)) → ObjOK w' (MB E (up (up O x .dead) r o) (up bs r (.blk bx c))) (up bs r (.blk bx c)) r o) :
    Step w (MB E O bs) bs w' (MB E (up (up O x .dead) r o) (up bs r (.blk bx c))) (up bs r (.blk bx c)) ∧ WRep C E (up (up O x .dead) r o) (up bs r (.blk bx c)) w' := by
  have hxr : x ≠ r := by rintro rfl; rw [hx] at hO; cases hO
  have hxm : mutB O bs bx := ⟨x, ox, cx, hx, hm, hbx⟩
  have back : ∀ k o', up (up O x .dead) r o k = some o' → o'.mut = true → (k = r ∧ o' = o) ∨ (k ≠ r ∧ k ≠ x ∧ O k = some o') := by
    intro k o' hk hmk
    by_cases hr : r = k
    · subst hr; rw [up_same] at hk; injection hk with hk; exact .inl ⟨rfl, hk.symm⟩
    · rw [up_other _ _ _ hr] at hk
      by_cases hxk : x = k
      · subst hxk; rw [up_same] at hk; injection hk with hk; subst hk; simp [AObj.mut] at hmk
      · rw [up_other _ _ _ hxk] at hk; exact .inr ⟨Ne.symm hr, Ne.symm hxk, hk⟩
  have hmb : ∀ b, mutB (up (up O x .dead) r o) (up bs r (.blk bx c)) b → mutB O bs b := by
    rintro b ⟨i, o', c', ho, hm', hbi⟩
    rcases back i o' ho hm' with ⟨rfl, rfl⟩ | ⟨h1, _, h3⟩
    · rw [up_same] at hbi; injection hbi with hbi; injection hbi with e1 e2; subst e1; exact hxm
    · rw [up_other _ _ _ (Ne.symm h1)] at hbi; exact ⟨i, o', c', h3, hm', hbi⟩
  refine hW.next (fun b => b = bx) (fun i h hi => ?_) (fun i b c' hi => ?_) (fun b hb' => by subst hb'; exact hxm) (fun b _ hne => hheap b hne) (by omega) (fun b hb' => .inl (hmb b hb')) (fun hS i o' ho => ?_)
    (fun i j o1 o2 b c1 c2 hi hj m1 m2 bi bj => ?_) (fun i t sz n f b c' ho hb' => ?_) h2 h3 h4
  · rw [up_other]
    · exact hi
    · rintro rfl; rw [hb] at hi; cases hi
  · by_cases hr : r = i
    · subst hr; rw [up_same] at hi; injection hi with hi; injection hi with e1 e2; subst e1; exact .inr (.inr hxm)
    · rw [up_other _ _ _ hr] at hi; exact .inl hi
  · by_cases hr : r = i
    · subst hr; rw [up_same] at ho; injection ho with ho; subst ho; exact .inr (hok hS)
    · rw [up_other _ _ _ hr] at ho
      by_cases hxi : x = i
      · subst hxi; rw [up_same] at ho; injection ho with ho; subst ho; exact .inr trivial
      · rw [up_other _ _ _ hxi] at ho
        cases hmi : o'.mut with
        | true =>
          refine .inl ⟨ho, fun b c' hbi e => ?_⟩
          subst e
          exact hxi (hW.sep x i ox o' b cx c' hx ho hm hmi hbx hbi)
        | false =>
          cases o' with
          | dead => exact .inr trivial
          | row t sz n f fr =>
            have : fr = true := by simpa [AObj.mut] using hmi
            subst this
            refine .inl ⟨ho, fun b c' hbi e => ?_⟩
            subst e
            exact hW.frz i t sz n f b c' ho hbi (.inr hxm)
          | _ => simp [AObj.mut] at hmi
  · rcases back i o1 hi m1 with ⟨rfl, rfl⟩ | ⟨a1, a2, a3⟩
    · rcases back j o2 hj m2 with ⟨rfl, rfl⟩ | ⟨b1, b2, b3⟩
      · rfl
      · rw [up_same] at bi; injection bi with bi; injection bi with e1 e2; subst e1
        rw [up_other _ _ _ (Ne.symm b1)] at bj
        exact absurd (hW.sep j x o2 ox bx c2 cx b3 hx m2 hm bj hbx) b2
    · rw [up_other _ _ _ (Ne.symm a1)] at bi
      rcases back j o2 hj m2 with ⟨rfl, rfl⟩ | ⟨b1, b2, b3⟩
      · rw [up_same] at bj; injection bj with bj; injection bj with e1 e2; subst e1
        exact absurd (hW.sep i x o1 ox bx c1 cx a3 hx m1 hm bi hbx) a2
      · rw [up_other _ _ _ (Ne.symm b1)] at bj
        exact hW.sep i j o1 o2 b c1 c2 a3 b3 m1 m2 bi bj
  · by_cases hr : r = i
    · subst hr; rw [up_same] at ho; injection ho with ho; subst ho; simp [AObj.mut] at hmo
    · rw [up_other _ _ _ hr] at ho hb'
      by_cases hxi : x = i
      · subst hxi; rw [up_same] at ho; injection ho with ho; cases ho
      · rw [up_other _ _ _ hxi] at ho
        have hf := hW.frz i t sz n f b c' ho hb'
        exact ⟨fun h => hf (.inr (hmb b h)), fun h => hf (.inl h)⟩

/-- A new row that is nowhere: a nil slice. -/
theorem WRep.newnil (hW : WRep C E O bs w) {r : Nat} (hb : bs r = none) (t : TypeId) (sz : Nat) (f : Nat → List AV) {n : Nat} (hn : n = 0) :
    Step w (MB E O bs) bs w (MB E (up O r (.row t sz n f false)) (up bs r .nil)) (up bs r .nil) ∧ WRep C E (up O r (.row t sz n f false)) (up bs r .nil) w := by
  have nb : ∀ i b c, up bs r .nil i = some (.blk b c) → bs i = some (.blk b c) ∧ i ≠ r := by
    intro i b c hi
    by_cases hr : r = i
    · subst hr; rw [up_same] at hi; injection hi with hi; cases hi
    · rw [up_other _ _ _ hr] at hi; exact ⟨hi, Ne.symm hr⟩
  have hmb : ∀ b, mutB (up O r (.row t sz n f false)) (up bs r .nil) b → mutB O bs b := by
    rintro b ⟨i, o', c', ho, hm', hbi⟩
    obtain ⟨h1, h2⟩ := nb i b c' hbi
    rw [up_other _ _ _ (Ne.symm h2)] at ho
    exact ⟨i, o', c', ho, hm', h1⟩
  refine hW.next (fun _ => False) (fun i h hi => ?_) (fun i b c' hi => .inl (nb i b c' hi).1) (fun b hb' => hb'.elim) (fun b _ _ => rfl) (Nat.le_refl _) (fun b hb' => .inl (hmb b hb')) (fun hS i o' ho => ?_)
    (fun i j o1 o2 b c1 c2 hi hj m1 m2 bi bj => ?_) (fun i t' sz' n' f' b c' ho hb' => ?_) rfl rfl rfl
  · rw [up_other]
    · exact hi
    · rintro rfl; rw [hb] at hi; cases hi
  · by_cases hr : r = i
    · subst hr; rw [up_same] at ho; injection ho with ho; subst ho; exact .inr (.inl ⟨up_same _ _ _, hn⟩)
    · rw [up_other _ _ _ hr] at ho; exact .inl ⟨ho, fun _ _ _ h => h⟩
  · obtain ⟨b1, r1⟩ := nb i b c1 bi
    obtain ⟨b2, r2⟩ := nb j b c2 bj
    rw [up_other _ _ _ (Ne.symm r1)] at hi
    rw [up_other _ _ _ (Ne.symm r2)] at hj
    exact hW.sep i j o1 o2 b c1 c2 hi hj m1 m2 b1 b2
  · obtain ⟨b1, r1⟩ := nb i b c' hb'
    rw [up_other _ _ _ (Ne.symm r1)] at ho
    have hf := hW.frz i t' sz' n' f' b c' ho b1
    exact ⟨fun h => hf (.inr (hmb b h)), fun h => hf (.inl h)⟩
end

/-- What append does to a slice of our own (or without capacity), told in three ways. -/
theorem run_app {P : Program} {te : TE} (hte : TE.ok P te) {w : World} {t e : TypeId} {ti tie : TI} (ht : lk te t = some ti) (hd : ti.desc = .slice e) (he : lk te e = some tie) (hz : tie.zero.cells.size = tie.sz)
    {ty : TypeId} {As : Option Addr} {n c : Nat} (olds : List Value)
    (hs : (n = 0 ∧ c = 0 ∧ olds = []) ∨ ∃ b vs, As = some ⟨b, 0, none⟩ ∧ w.heap[b]? = some (.cells vs e (0, 0)) ∧ n ≤ c ∧ vs.size = c * tie.sz ∧ olds = vs.toList.take (n * tie.sz))
    {A : Option Addr} {m c' : Nat} (news : List Value) (hl : news.length = m * tie.sz) (hA : 0 < m → ∃ ad, A = some ad ∧ ∀ j u, news[j]? = some u → w.cell? (ad.add j) = some u) (h1 : ∀ u ∈ news, u.oneCell' = true)
    (h63 : n + m ≤ maxLen) (hb : (n + m) * tie.bytes ≤ 140737488355328) :
    ∃ v' w', (Builtin.append_ #[t, t] ty #[.slice As n c, .slice A m c']).run P w = .ok v' w' ∧
      ((m = 0 ∧ v' = .slice As n c ∧ w' = w) ∨
       (∃ b vs, 0 < m ∧ As = some ⟨b, 0, none⟩ ∧ w.heap[b]? = some (.cells vs e (0, 0)) ∧ n + m ≤ c ∧ v' = .slice As (n + m) c ∧ vs.size = c * tie.sz ∧ olds = vs.toList.take (n * tie.sz) ∧
          w' = w.setRow b (vs.toList.take (n * tie.sz) ++ news ++ vs.toList.drop (n * tie.sz + news.length)).toArray) ∨
       (∃ cap zs, n + m ≤ cap ∧ cap ≤ maxLen ∧ zs.size = (cap - (n + m)) * tie.sz ∧ v' = .slice (some ⟨w.heap.size, 0, none⟩) (n + m) cap ∧ w' = w.drew.alloc (.cells (olds.toArray ++ news.toArray ++ zs) e))) := by
  obtain ⟨hu, _, _⟩ := hte t ti ht
  rw [hd] at hu
  obtain ⟨_, ⟨i, hi, his, hib, hiz⟩, _⟩ := hte e tie he
  have hmax : n + m ≤ 9223372036854775807 := by simp only [maxLen] at h63; omega
  rcases Nat.eq_zero_or_pos m with h0 | h0
  · subst h0
    have hnews : news = [] := List.eq_nil_of_length_eq_zero (by simpa using hl)
    subst hnews
    refine ⟨.slice As n c, w, ?_, .inl ⟨rfl, rfl, rfl⟩⟩
    have hnc : n ≤ c := by
      rcases hs with ⟨h1, h2, _⟩ | ⟨b, vs, _, _, h, _⟩ <;> omega
    have hf : (Builtin.firstCells i.size 0 (.slice A 0 c')).run P w = .ok #[] w := by
      cases A with
      | none => simp [Builtin.firstCells]
      | some a => simp [Builtin.firstCells, loadCells, loadCellsFrom]
    cases As with
    | none => simp [Builtin.append_, run_underlying hu, sizeOf, typeInfo, hi, Builtin.lenOf, hnc, hf]
    | some a => simp [Builtin.append_, run_underlying hu, sizeOf, typeInfo, hi, Builtin.lenOf, hnc, hf, storeCells]
  · obtain ⟨ad, rfl, hnews⟩ := hA h0
    have cap_of : ∀ old, grownCap w (n + m) old e ≥ n + m ∧ grownCap w (n + m) old e ≤ maxLen := fun old => ⟨grownCap_ge w (n + m) old e, grownCap_le_maxLen w (n + m) old e h63⟩
    rcases hs with ⟨rfl, rfl, rfl⟩ | ⟨b, vs, rfl, hh, hnc, hvs, rfl⟩
    · cases As with
      | none =>
        have hr := run_append_nil (P := P) w t ty e i tie.zero hu hi hiz ad m c' news (by rw [his]; exact hl) hnews h0 (by omega) (by rw [hib]; simp only [Nat.zero_add] at hb; omega)
        refine ⟨_, _, hr, .inr (.inr ⟨grownCap w m 0 e, Builtin.zeroCells tie.zero.cells (grownCap w m 0 e - m), ?_, ?_, ?_, by simp, by simp⟩)⟩
        · have := (cap_of 0).1; simpa using this
        · have := (cap_of 0).2; simpa using this
        · rw [size_zeroCells, hz]; simp
      | some a =>
        have hr := run_append_grow (P := P) w t ty e i tie.zero hu hi hiz a 0 0 [] (by simp) (by simp) ad m c' news (by rw [his]; exact hl) hnews (by omega) (by omega) (growslice_fits (by omega) (by rw [hib]; exact hb))
        refine ⟨_, _, hr, .inr (.inr ⟨grownCap w (0 + m) 0 e, Builtin.zeroCells tie.zero.cells (grownCap w (0 + m) 0 e - (0 + m)), (cap_of 0).1, (cap_of 0).2, ?_, rfl, rfl⟩)⟩
        rw [size_zeroCells, hz]
    · by_cases hroom : n + m ≤ c
      · have hfit : n * i.size + news.length ≤ vs.size := by rw [his, hl, hvs, ← Nat.add_mul]; exact Nat.mul_le_mul_right _ hroom
        have hr := run_append_room (P := P) w t ty e i hu hi b n c vs hh ad m c' news (by rw [his]; exact hl) hnews h1 hroom hfit
        rw [his] at hr
        exact ⟨_, _, hr, .inr (.inl ⟨b, vs, h0, rfl, hh, hroom, rfl, hvs, rfl, rfl⟩)⟩
      · have hle : n * tie.sz ≤ vs.size := by rw [hvs]; exact Nat.mul_le_mul_right _ hnc
        have hol : (vs.toList.take (n * tie.sz)).length = n * i.size := by rw [his]; simp; omega
        have holds : ∀ j u, (vs.toList.take (n * tie.sz))[j]? = some u → w.cell? ((⟨b, 0, none⟩ : Addr).add j) = some u := by
          intro j u hu
          rw [Addr.add_lit, Nat.zero_add, cell_of_row w b j vs e (0, 0) hh]
          rw [List.getElem?_take] at hu
          split at hu
          · simpa using hu
          · cases hu
        have hr := run_append_grow (P := P) w t ty e i tie.zero hu hi hiz ⟨b, 0, none⟩ n c _ hol holds ad m c' news (by rw [his]; exact hl) hnews (by omega) (by omega) (growslice_fits (by omega) (by rw [hib]; exact hb))
        refine ⟨_, _, hr, .inr (.inr ⟨grownCap w (n + m) c e, Builtin.zeroCells tie.zero.cells (grownCap w (n + m) c e - (n + m)), (cap_of c).1, (cap_of c).2, ?_, rfl, rfl⟩)⟩
        rw [size_zeroCells, hz]

end Go.Eng

