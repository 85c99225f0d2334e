/- Lemmas that the tied card of ScannerValid is proved by. -/
import Derived.Test.YtokpcnppihgdlaaGreatDoorGg
import Derived.WideKeyRuns
import Derived.Laws.BytesString
import Derived.Laws.MakeOwn
/- The engine, part 29: ranging over a string. -/
namespace Go.Eng
open Go.RowKit

/-- The rune at a place, and its width. -/
def runeAt (s : List UInt8) (i : Nat) : Nat × Nat := Utf8.decode ⟨s.toArray⟩ i

section
variable {C : Ctx} {N : Nat} {o : Oper} {T : Nat → Option AV} {O : Nat → Option AObj} {k : Nat}

theorem run_getIter {P : Program} {w : World} {b : Nat} {s : ByteArray} {p : Nat} (h : w.heap[b]? = some (.stringIter s p)) : (getObj b).run P w = .ok (.stringIter s p) w := by simp [getObj, Sem.run, h]
theorem run_setIter {P : Program} {w : World} {b : Nat} {s : ByteArray} {p : Nat} (o : Obj) (h : w.heap[b]? = some (.stringIter s p)) : (setObj b o).run P w = .ok () { w with heap := w.heap.setIfInBounds b o } := by simp [setObj, Sem.run, h]

theorem OpStep.nextIn {x : Operand} {r pos : Nat} {s : List UInt8} (hop : o.op = .next x true) (hd : dstOK N o.dst = true) (hx : evO T x = some (.ptr r 0)) (hO : O r = some (.siter s pos)) (hp : pos < s.length) :
    OpStep C N o T O k (.tuple [.bool true, .int .i64 pos, .int .i32 (runeAt s pos).1]) [(r, .siter s (pos + (runeAt s pos).2))] := by
  intro E T' O' bs a w K Q hT hOs hr hf hK
  have hxv := evO_sound hr.1 (evO_mono hT hx)
  have hOr := hOs _ _ hO
  obtain ⟨b, c, bytes, h1, h2, h3⟩ := hr.2.obj r _ hOr
  generalize hxx : a.eval x = xv at hxv
  cases hxv with | ptr hbr =>
  rw [h1] at hbr
  injection hbr with hbr
  injection hbr with e1 e2
  subst e1; subst e2
  have hbytes : bytes = ⟨s.toArray⟩ := by cases bytes; simp only [ByteArray.mk.injEq]; subst h3; simp
  have hsz : pos < bytes.size := by subst hbytes; simpa [ByteArray.size] using hp
  obtain ⟨g1, g2⟩ := MapKept.heap_set (o' := .stringIter bytes (pos + (runeAt s pos).2)) h2
  have hrun : (execOp a.eval o).run C.P w = .ok (.value (.tuple #[.bool true, .int .i64 pos, .int .i32 (runeAt s pos).1])) { w with heap := w.heap.setIfInBounds b (.stringIter bytes (pos + (runeAt s pos).2)) } := by
    have e : Utf8.decode bytes pos = runeAt s pos := by rw [hbytes]; rfl
    simp only [execOp, hop, hxx, Instr.next, Sem.run_bind, run_getIter h2, Result.andThen_ok, hsz, if_true, e, run_setIter _ h2, Sem.run_pure, goInt]
  unfold Oper.wp
  rw [hrun]
  obtain ⟨hS, hW⟩ := hr.2.modify (x := r) (o := .siter s (pos + (runeAt s pos).2)) hOr rfl h1 (w' := { w with heap := w.heap.setIfInBounds b (.stringIter bytes (pos + (runeAt s pos).2)) }) (fun b' hb' => g2 b' hb') (by simp) rfl ⟨rfl, fun _ => Nat.le_refl _⟩ rfl rfl
    (fun hS => ⟨b, c, bytes, h1, g1, h3⟩)
  refine hK bs _ _ (fun _ _ => rfl) ⟨(hr.1.step hS).putF hd ?_, hW⟩
  refine .tuple rfl fun j v u hv hu => ?_
  match j with
  | 0 => simp at hv hu; subst hv; subst hu; exact .bool
  | 1 => simp at hv hu; subst hv; subst hu; exact .int
  | 2 => simp at hv hu; subst hv; subst hu; exact .int
  | j + 3 => simp at hv

theorem OpStep.nextOut {x : Operand} {r pos : Nat} {s : List UInt8} (hop : o.op = .next x true) (hd : dstOK N o.dst = true) (hx : evO T x = some (.ptr r 0)) (hO : O r = some (.siter s pos)) (hp : ¬ pos < s.length) :
    OpStep C N o T O k (.tuple [.bool false]) [] := by
  intro E T' O' bs a w K Q hT hOs hr hf hK
  have hxv := evO_sound hr.1 (evO_mono hT hx)
  have hOr := hOs _ _ hO
  obtain ⟨b, c, bytes, h1, h2, h3⟩ := hr.2.obj r _ hOr
  generalize hxx : a.eval x = xv at hxv
  cases hxv with | ptr hbr =>
  rw [h1] at hbr
  injection hbr with hbr
  injection hbr with e1 e2
  subst e1; subst e2
  have hbytes : bytes = ⟨s.toArray⟩ := by cases bytes; simp only [ByteArray.mk.injEq]; subst h3; simp
  have hsz : ¬ pos < bytes.size := by subst hbytes; simpa [ByteArray.size] using hp
  have hrun : (execOp a.eval o).run C.P w = .ok (.value (.tuple #[.bool false])) w := by
    simp only [execOp, hop, hxx, Instr.next, Sem.run_bind, run_getIter h2, Result.andThen_ok, hsz, if_false, Sem.run_pure]
  unfold Oper.wp
  rw [hrun]
  refine hK bs _ _ (fun _ _ => rfl) ⟨hr.1.putF hd ?_, hr.2⟩
  refine .tuple rfl fun j v u hv hu => ?_
  match j with
  | 0 => simp at hv hu; subst hv; subst hu; exact .bool
  | j + 1 => simp at hv
end

end Go.Eng
/- The engine, part 30: calls that change nothing, with objects handed over. -/
namespace Go.Eng
open Go.RowKit

/-- A call that changes nothing, whatever it is handed. -/
theorem ACalls.quiet {C : Ctx} {f : FuncId} {args : List AV} {objs : List AObj} {u : AV} (he : Enters C.P f)
    (h : ∀ (E : Ent) (bs : Nat → Option Hd) (w : World) (cargs : List Value), WRep C E (lkL objs) bs w → cargs.length = args.length → (∀ (j : Nat) v x, cargs[j]? = some v → args[j]? = some x → V w (MB E (lkL objs) bs) bs v x) →
      Calls C.P f cargs.toArray w fun e w' => ∃ v, e = .returned v ∧ w' = w ∧ V w (MB E (lkL objs) bs) bs v u) : ACalls C f args objs fun u' O => u' = u ∧ O = enum 0 objs := by
  refine ⟨he, fun E bs w cargs h1 h2 h3 h4 h5 h6 h7 => ?_⟩
  refine (h E bs w cargs h4 h6 h7).mono ?_
  rintro e w' ⟨v, rfl, rfl, hV⟩
  have hO : lk (enum 0 objs) = lkL objs := by funext i; rw [lk_enum]; simp [lkL]
  refine ⟨v, u, enum 0 objs, bs, rfl, ⟨rfl, rfl⟩, by rw [hO]; exact h4, by rw [hO]; exact hV, fun r hr => ⟨?_, h5 r (by omega)⟩⟩
  rw [hO]
  simp [lkL, List.getElem?_eq_none_iff]
  omega

mutual
theorem rn_nref (ρ : Nat → Option Nat) : ∀ (u : AV), nref u = true → u.rn ρ = u
  | .any, _ => rfl
  | .bool _, _ => rfl
  | .int _ _, _ => rfl
  | .str _, _ => rfl
  | .nilptr, _ => rfl
  | .vptr _, _ => rfl
  | .nil, _ => rfl
  | .empty, _ => rfl
  | .view _ _ _, _ => rfl
  | .nilmap, _ => rfl
  | .nilfunc, _ => rfl
  | .nilIface, _ => rfl
  | .iface t v, h => by simp only [nref] at h; simp only [AV.rn, rn_nref ρ v h]
  | .agg l, h => by simp only [nref] at h; simp only [AV.rn, rnL_nref ρ l h]
  | .tuple l, h => by simp only [nref] at h; simp only [AV.rn, rnL_nref ρ l h]
  | .func f l, h => by simp only [nref] at h; simp only [AV.rn, rnL_nref ρ l h]
  | .ptr _ _, h => by simp [nref] at h
  | .eptr _ _ _ _, h => by simp [nref] at h
  | .own _ _, h => by simp [nref] at h
  | .sub _ _ _ _, h => by simp [nref] at h
  | .map _, h => by simp [nref] at h
theorem rnL_nref (ρ : Nat → Option Nat) : ∀ (l : List AV), nrefL l = true → AV.rnL ρ l = l
  | [], _ => rfl
  | u :: l, h => by
    simp only [nrefL, Bool.and_eq_true] at h
    simp only [AV.rnL, rn_nref ρ u h.1, rnL_nref ρ l h.2]
end

/-- A cell of a variable of our own. -/
theorem WRep.cell {C : Ctx} {E : Ent} {O : Nat → Option AObj} {bs : Nat → Option Hd} {w : World} (hW : WRep C E O bs w) {r : Nat} {cs : List AV} {t : TypeId} (hO : O r = some (.cells cs t)) {v : Value} (hv : V w (MB E O bs) bs v (.ptr r 0)) {j : Nat} {u : AV} (hu : cs[j]? = some u) :
    ∃ b x, v = .pointer (some ⟨b, 0, none⟩) ∧ w.cell? ⟨b, j, none⟩ = some x ∧ V w (MB E O bs) bs x u := by
  obtain ⟨b, c, vs, h1, h2, h3, h4, h5⟩ := hW.obj r _ hO
  cases hv with | ptr hb =>
  rw [h1] at hb
  injection hb with hb
  injection hb with e1 e2
  subst e1; subst e2
  have hj : j < vs.size := by rw [h3]; exact (List.getElem?_eq_some_iff.1 hu).1
  refine ⟨b, vs[j], rfl, ?_, h5 j _ u (Array.getElem?_eq_getElem hj) hu⟩
  rw [cell_of_row w b j vs t (0, 0) h2]
  simp [hj]

end Go.Eng
/- The engine, part 31: variables of many cells, told as one list. -/
namespace Go.Eng

theorem spliceA_full : ∀ (cs xs : List AV), cs.length = xs.length → spliceA cs 0 xs = some xs
  | [], [], _ => rfl
  | c :: cs, x :: xs, h => by
    have := spliceA_full cs xs (by simpa using h)
    simp [spliceA, this]
  | [], _ :: _, h => by simp at h
  | _ :: _, [], h => by simp at h

section
variable {C : Ctx} {N : Nat} {o : Oper} {T : Nat → Option AV} {O : Nat → Option AObj} {k : Nat} {te : TE}

theorem OpStep.allocW (hte : TE.ok C.P te) {t : TypeId} {ti : TI} {zs : List AV} (ht : lk te t = some ti) (hop : o.op = .alloc t) (hd : dstOK N o.dst = true) (hz : avcs ti.zero.cells.toList = some zs) : OpStep C N o T O k (.ptr k 0) [(k, .cells zs t)] := by
  refine OpStep.eff hte (vc := True) ?_ hd trivial
  rw [hop]
  simp only [evalEff, zeroA, ht, hz]

theorem OpStep.storeW (hte : TE.ok C.P te) {t tt : TypeId} {ti : TI} {x y : Operand} {r : Nat} {cs new : List AV} (ht : lk te t = some ti) (hop : o.op = .store t x y) (hd : dstOK N o.dst = true) (hx : evO T x = some (.ptr r 0)) (hy : evO T y = some (.agg new)) (hO : O r = some (.cells cs tt))
    (hl : cs.length = new.length) (hs : new.length = ti.sz) : OpStep C N o T O k .any [(r, .cells new tt)] := by
  refine OpStep.eff hte (vc := new.length = ti.sz) ?_ hd hs
  rw [hop]
  simp only [evalEff, hx, hy, ht, cellsA, hO, spliceA_full cs new hl]
end

end Go.Eng
/- The engine, part 33: maps whose keys are structs of texts and numbers. -/
namespace Go.Eng
open Go.WideShapes

def keq0 : AV → AV → Bool
  | .str a, .str b => decide (a = b)
  | .int k a, .int k' b => decide (k = k') && decide (a = b)
  | _, _ => false
def keqL : List AV → List AV → Bool
  | [], [] => true
  | x :: xs, y :: ys => keq0 x y && keqL xs ys
  | _, _ => false
def shapeFs (te : TE) : Nat → List Field → List AV → Bool
  | _, [], [] => true
  | i, f :: fs, c :: cs => Nat.beq f.offset i && (match lk te f.type with
      | some tf => isK tf.desc c
      | none => false) && shapeFs te (i + 1) fs cs
  | _, _, _ => false
/-- A struct of texts and numbers, as a key. -/
def keyA (te : TE) (kt : TypeId) : AV → Bool
  | .agg cs => match lk te kt with
    | some tk => match tk.desc with
      | .struct fs => tk.cmp && shapeFs te 0 fs.toList cs
      | _ => false
    | none => false
  | _ => false

theorem isK_two {d : TypeDesc} {a : AV} (h : isK d a = true) : (d = .string ∧ ∃ s, a = .str s) ∨ ∃ k n, d = .int k ∧ a = .int k n := by
  unfold isK at h
  split at h
  · exact .inl ⟨rfl, _, rfl⟩
  · have := of_decide_eq_true h
    subst this
    exact .inr ⟨_, _, rfl, rfl⟩
  · cases h
theorem keq0_iff {d : TypeDesc} {a b : AV} (ha : isK d a = true) (hb : isK d b = true) : keq0 a b = true ↔ a = b := by
  rcases isK_two ha with ⟨rfl, s, rfl⟩ | ⟨k, n, rfl, rfl⟩
  · rcases isK_two hb with ⟨_, s', rfl⟩ | ⟨k', n', h, rfl⟩
    · simp [keq0]
    · cases h
  · rcases isK_two hb with ⟨h, s', rfl⟩ | ⟨k', n', h, rfl⟩
    · cases h
    · cases h
      simp [keq0]

theorem shapeFs_cons {te : TE} {i : Nat} {fs : List Field} {c : AV} {cs : List AV} (h : shapeFs te i fs (c :: cs) = true) : ∃ f fs' tf, fs = f :: fs' ∧ f.offset = i ∧ lk te f.type = some tf ∧ isK tf.desc c = true ∧ shapeFs te (i + 1) fs' cs = true := by
  cases fs with
  | nil => simp [shapeFs] at h
  | cons f fs' =>
    simp only [shapeFs, Bool.and_eq_true] at h
    obtain ⟨⟨h1, h2⟩, h3⟩ := h
    split at h2
    · rename_i tf htf
      exact ⟨f, fs', tf, rfl, Nat.eq_of_beq_eq_true h1, htf, h2, h3⟩
    · cases h2
theorem shapeFs_nil {te : TE} {i : Nat} {fs : List Field} (h : shapeFs te i fs [] = true) : fs = [] := by
  cases fs with
  | nil => rfl
  | cons f fs => simp [shapeFs] at h

theorem keqL_iff {te : TE} : ∀ {fs : List Field} {i : Nat} {xs ys : List AV}, shapeFs te i fs xs = true → shapeFs te i fs ys = true → (keqL xs ys = true ↔ xs = ys)
  | fs, i, [], ys, h1, h2 => by
    have := shapeFs_nil h1
    subst this
    cases ys with
    | nil => simp [keqL]
    | cons y ys => simp [shapeFs] at h2
  | fs, i, x :: xs, [], h1, h2 => by
    have := shapeFs_nil h2
    subst this
    simp [shapeFs] at h1
  | fs, i, x :: xs, y :: ys, h1, h2 => by
    obtain ⟨f, fs', tf, rfl, _, htf, hk, h3⟩ := shapeFs_cons h1
    obtain ⟨f2, fs2, tf2, e, _, htf2, hk2, h4⟩ := shapeFs_cons h2
    simp only [List.cons.injEq] at e
    obtain ⟨rfl, rfl⟩ := e
    rw [htf] at htf2
    obtain rfl := Option.some.inj htf2
    simp only [keqL, Bool.and_eq_true, keq0_iff hk hk2, keqL_iff h3 h4, List.cons.injEq]

theorem eqA_key {te : TE} {d : Nat} {t : TypeId} {tf : TI} {a b : AV} (ht : lk te t = some tf) (ha : isK tf.desc a = true) (hb : isK tf.desc b = true) : eqA te (d + 1) t [a] [b] = some (keq0 a b) := by
  simp only [eqA, ht]
  rcases isK_two ha with ⟨hd, s, rfl⟩ | ⟨k, n, hd, rfl⟩
  · rw [hd] at hb ⊢
    rcases isK_two hb with ⟨_, s', rfl⟩ | ⟨k', n', h, rfl⟩
    · rfl
    · cases h
  · rw [hd] at hb ⊢
    rcases isK_two hb with ⟨h, s', rfl⟩ | ⟨k', n', h, rfl⟩
    · cases h
    · cases h
      simp [keq0]

theorem isK_plain {d : TypeDesc} {a : AV} (h : isK d a = true) : isAggD d = false := by
  rcases isK_two h with ⟨rfl, _⟩ | ⟨_, _, rfl, _⟩ <;> rfl

theorem eqFields_key {te : TE} {d : Nat} (hn : ∀ t ti, lk te t = some ti → isAggD ti.desc = false → ti.sz = 1) {xs ys : List AV} : ∀ (fs : List Field) (i : Nat), shapeFs te i fs (xs.drop i) = true → shapeFs te i fs (ys.drop i) = true →
    eqFieldsA (eqA te (d + 1)) te xs ys fs = some (keqL (xs.drop i) (ys.drop i))
  | fs, i, h1, h2 => by
    cases hx : xs.drop i with
    | nil =>
      rw [hx] at h1
      have := shapeFs_nil h1
      subst this
      cases hy : ys.drop i with
      | nil => rfl
      | cons y ys' => rw [hy] at h2; simp [shapeFs] at h2
    | cons x xs' =>
      rw [hx] at h1
      obtain ⟨f, fs', tf, rfl, hoff, htf, hk, h3⟩ := shapeFs_cons h1
      cases hy : ys.drop i with
      | nil => rw [hy] at h2; simp [shapeFs] at h2
      | cons y ys' =>
        rw [hy] at h2
        obtain ⟨f2, fs2, tf2, e, _, htf2, hk2, h4⟩ := shapeFs_cons h2
        simp only [List.cons.injEq] at e
        obtain ⟨rfl, rfl⟩ := e
        rw [htf] at htf2
        obtain rfl := Option.some.inj htf2
        have hs := hn _ _ htf (isK_plain hk)
        have tx : takeN tf.sz (dropL f.offset xs) = some [x] := by rw [hs, dropL_eq, hoff, hx]; rfl
        have ty : takeN tf.sz (dropL f.offset ys) = some [y] := by rw [hs, dropL_eq, hoff, hy]; rfl
        have dx : xs.drop (i + 1) = xs' := by rw [← List.drop_drop, hx]; rfl
        have dy : ys.drop (i + 1) = ys' := by rw [← List.drop_drop, hy]; rfl
        have e1 := eqA_key (d := d) htf hk hk2
        have ih := eqFields_key (d := d) hn fs' (i + 1) (by rw [dx]; exact h3) (by rw [dy]; exact h4)
        rw [dx, dy] at ih
        cases fs' with
        | nil =>
          have nx : xs' = [] := by
            cases xs' with
            | nil => rfl
            | cons _ _ => simp [shapeFs] at h3
          have ny : ys' = [] := by
            cases ys' with
            | nil => rfl
            | cons _ _ => simp [shapeFs] at h4
          subst nx; subst ny
          simp only [eqFieldsA, htf, tx, ty, e1, keqL, Bool.and_true]
        | cons g gs =>
          simp only [eqFieldsA, htf, tx, ty, e1] at ih ⊢
          rw [ih]
          simp only [keqL]

theorem eqA_agg {te : TE} {kt : TypeId} (hn : ∀ t ti, lk te t = some ti → isAggD ti.desc = false → ti.sz = 1) {xs ys : List AV} (h1 : keyA te kt (.agg xs) = true) (h2 : keyA te kt (.agg ys) = true) :
    ∃ tk fs, lk te kt = some tk ∧ tk.desc = .struct fs ∧ tk.cmp = true ∧ shapeFs te 0 fs.toList xs = true ∧ shapeFs te 0 fs.toList ys = true ∧ eqA te 8 kt xs ys = some (keqL xs ys) := by
  simp only [keyA] at h1 h2
  split at h1
  · rename_i tk htk
    rw [htk] at h2
    simp only at h2
    split at h1
    · rename_i fs hfs
      rw [hfs] at h2
      simp only [Bool.and_eq_true] at h1 h2
      refine ⟨tk, fs, htk, hfs, h1.1, h1.2, h2.2, ?_⟩
      simp only [eqA, htk, hfs, h1.1]
      exact eqFields_key (d := 6) hn fs.toList 0 h1.2 h2.2
    · cases h1
  · cases h1

section
variable {P : Program} {te : TE} {w : World} {M : Nat → Prop} {bs : Nat → Option Hd}

theorem V_agg {v : Value} {cs : List AV} (h : V w M bs v (.agg cs)) : ∃ vs : Array Value, v = .agg vs ∧ vs.size = cs.length ∧ (∀ (j : Nat) (x : Value), vs[j]? = some x → x.oneCell' = true) ∧ ∀ (j : Nat) x u, vs[j]? = some x → cs[j]? = some u → V w M bs x u := by
  cases h with | agg hl h1 hv => exact ⟨_, rfl, hl, h1, hv⟩

theorem shapeFs_at : ∀ {fs : List Field} {i : Nat} {cs : List AV}, shapeFs te i fs cs = true → ∀ (j : Nat) f, fs[j]? = some f → ∃ tf c, lk te f.type = some tf ∧ f.offset = i + j ∧ cs[j]? = some c ∧ isK tf.desc c = true
  | fs, i, [], h, j, f, hf => by
    have := shapeFs_nil h
    subst this
    simp at hf
  | fs, i, c :: cs, h, j, f, hf => by
    obtain ⟨f0, fs', tf, rfl, hoff, htf, hk, h3⟩ := shapeFs_cons h
    cases j with
    | zero =>
      simp at hf
      subst hf
      exact ⟨tf, c, htf, by omega, by simp, hk⟩
    | succ j =>
      obtain ⟨tf', c', q1, q2, q3, q4⟩ := shapeFs_at h3 j f (by simpa using hf)
      exact ⟨tf', c', q1, by omega, by simpa using q3, q4⟩
theorem shapeFs_len : ∀ {fs : List Field} {i : Nat} {cs : List AV}, shapeFs te i fs cs = true → fs.length = cs.length
  | fs, i, [], h => by rw [shapeFs_nil h]; rfl
  | fs, i, c :: cs, h => by
    obtain ⟨f0, fs', tf, rfl, hoff, htf, hk, h3⟩ := shapeFs_cons h
    simp [shapeFs_len h3]

theorem key_inj {fs : List Field} {vs us : Array Value} {cs ds : List AV} (h1 : shapeFs te 0 fs cs = true) (h2 : shapeFs te 0 fs ds = true) (s1 : vs.size = cs.length) (V1 : ∀ (j : Nat) x u, vs[j]? = some x → cs[j]? = some u → V w M bs x u)
    (s2 : us.size = ds.length) (V2 : ∀ (j : Nat) x u, us[j]? = some x → ds[j]? = some u → V w M bs x u) : vs = us ↔ cs = ds := by
  have l1 := shapeFs_len h1
  have l2 := shapeFs_len h2
  have cell : ∀ j, j < cs.length → ∀ (hv : j < vs.size) (hu : j < us.size), (vs[j] = us[j] ↔ cs[j]? = ds[j]?) := by
    intro j hj hv hu
    obtain ⟨tf, c, q1, _, q3, q4⟩ := shapeFs_at h1 j fs[j] (List.getElem?_eq_getElem (by omega))
    obtain ⟨tf', c', q1', _, q3', q4'⟩ := shapeFs_at h2 j fs[j] (List.getElem?_eq_getElem (by omega))
    rw [q1] at q1'
    obtain rfl := Option.some.inj q1'
    have := isK_inj (V1 j _ _ (Array.getElem?_eq_getElem hv) q3) (V2 j _ _ (Array.getElem?_eq_getElem hu) q3') q4 q4'
    rw [this, q3, q3']
    simp
  constructor
  · rintro rfl
    apply List.ext_getElem?
    intro j
    by_cases hj : j < cs.length
    · exact (cell j hj (by omega) (by omega)).1 rfl
    · rw [List.getElem?_eq_none (by omega), List.getElem?_eq_none (by omega)]
  · rintro rfl
    apply Array.ext
    · omega
    · intro j hv hu
      exact (cell j (by omega) hv hu).2 rfl

theorem checkKey_key (hte : TE.ok P te) (hn : ∀ t ti, lk te t = some ti → isAggD ti.desc = false → ti.sz = 1) {kt : TypeId} {cs : List AV} {v : Value} (hk : keyA te kt (.agg cs) = true) (hV : V w M bs v (.agg cs)) (em : Bool) : (Instr.checkKey em 10000 kt v).run P w = .ok () w := by
  obtain ⟨tk, fs, htk, hfs, hcmp, hs, _, _⟩ := eqA_agg hn hk hk
  obtain ⟨vs, rfl, s1, o1, V1⟩ := V_agg hV
  have hu : P.underlying kt = some (.struct fs) := by rw [(hte kt tk htk).1, hfs]
  have hb := ((hte kt tk htk).2.2 hcmp).2.2 fs hfs
  have each : ∀ f ∈ fs.toList, f.name ≠ "_" ∧ ∃ v, (part f.type vs f.offset).run P w = .ok v w ∧ (Instr.checkKey em 9999 f.type v).run P w = .ok () w := by
    intro f hf
    refine ⟨hb f hf, ?_⟩
    obtain ⟨j, hj⟩ := List.getElem?_of_mem hf
    obtain ⟨tf, c, q1, q2, q3, q4⟩ := shapeFs_at hs j f hj
    have hs1 := hn _ _ q1 (isK_plain q4)
    have hjl : j < cs.length := (List.getElem?_eq_some_iff.1 q3).1
    have tx : takeN tf.sz (dropL f.offset cs) = some [c] := by
      rw [hs1, dropL_eq, q2, Nat.zero_add, List.drop_eq_getElem_cons hjl]
      have : cs[j] = c := (List.getElem?_eq_some_iff.1 q3).2
      rw [this]; rfl
    obtain ⟨v, hv, cv⟩ := run_part hte q1 (hn _ _ q1) s1 o1 V1 tx
    rw [isK_plain q4] at cv
    obtain ⟨u, e, hVu⟩ := cv
    simp only [List.cons.injEq, and_true] at e
    subst e
    exact ⟨v, hv, MapKept.run_checkKey (hte _ _ q1).1 (isK_key hVu q4) em 9998⟩
  rw [show (10000 : Nat) = 9999 + 1 from rfl, Instr.checkKey]
  simp only [Sem.run_bind, run_underlying hu, Result.andThen_ok]
  rw [← Array.forIn_toList]
  generalize fs.toList = L at each
  induction L with
  | nil => simp
  | cons f L ih =>
    obtain ⟨hne, v, p1, p2⟩ := each f (by simp)
    simp only [List.forIn_cons, if_pos hne, Sem.run_bind, Result.andThen_ok, p1, p2, Sem.run_pure]
    exact ih fun y hy => each y (by simp [hy])

theorem stays_key {te : TE} {kt : TypeId} {cs : List AV} {v : Value} (hn : ∀ t ti, lk te t = some ti → isAggD ti.desc = false → ti.sz = 1) (hk : keyA te kt (.agg cs) = true) (hV : V w M bs v (.agg cs)) : (Instr.keyThatStays v v).run P w = .ok v w := by
  obtain ⟨tk, fs, htk, hfs, hcmp, hs, _, _⟩ := eqA_agg hn hk hk
  obtain ⟨vs, rfl, s1, o1, V1⟩ := V_agg hV
  have l1 := shapeFs_len hs
  have hb : Instr.sameBits 10000 (.agg vs) (.agg vs) = true := by
    rw [show (10000 : Nat) = 9999 + 1 from rfl, Instr.sameBits]
    simp only [beq_self_eq_true, Bool.true_and]
    rw [List.all_eq_true]
    intro p hp
    obtain ⟨j, hj⟩ := List.getElem?_of_mem hp
    rw [List.getElem?_zip_eq_some] at hj
    obtain ⟨q1, q2⟩ := hj
    have e : p.1 = p.2 := by rw [q1] at q2; exact Option.some.inj q2
    have hjl : j < vs.size := by
      have := (List.getElem?_eq_some_iff.1 q1).1
      simpa using this
    obtain ⟨tf, c, _, _, q3, q4⟩ := shapeFs_at hs j fs.toList[j] (List.getElem?_eq_getElem (by omega))
    have hVc := V1 j p.1 c (by simpa using q1) q3
    obtain ⟨a, b⟩ := p
    simp only at e hVc
    subst e
    exact MapKept.sameBits_self (isK_key hVc q4) 9999
  simp [Instr.keyThatStays, hb]

theorem find_key (hte : TE.ok P te) (hn : ∀ t ti, lk te t = some ti → isAggD ti.desc = false → ti.sz = 1) {kt : TypeId} {ks : List AV} {kv : Value} (hk : keyA te kt (.agg ks) = true) (hV : V w M bs kv (.agg ks)) : ∀ (ents : List MapEntry) (es : List (AV × AV)) (i : Nat),
    ents.length = es.length → (∀ (j : Nat) (e : MapEntry) (p : AV × AV), ents[j]? = some e → es[j]? = some p → V w M bs e.key p.1 ∧ V w M bs e.val p.2) → (es.all fun p => keyA te kt p.1) = true →
    ((Instr.findAsking kt kv ents i).run P w = .ok none w ∧ ∀ p ∈ es, p.1 ≠ .agg ks) ∨ ∃ (j : Nat) (e : MapEntry) (v : AV), (Instr.findAsking kt kv ents i).run P w = .ok (some (i + j, e.val)) w ∧ ents[j]? = some e ∧ e.key = kv ∧ es[j]? = some (.agg ks, v) ∧ V w M bs e.val v
  | [], [], i, _, _, _ => .inl ⟨by simp [Instr.findAsking], fun p hp => by simp at hp⟩
  | [], _ :: _, _, h, _, _ => by simp at h
  | _ :: _, [], _, h, _, _ => by simp at h
  | e :: ents, p :: es, i, hl, hE, hall => by
    simp only [List.all_cons, Bool.and_eq_true] at hall
    obtain ⟨v1, v2⟩ := hE 0 e p rfl rfl
    obtain ⟨pk, pv⟩ := p
    cases pk with
    | agg ps =>
      obtain ⟨tk, fs, htk, hfs, hcmp, h1, h2, heq⟩ := eqA_agg hn hk hall.1
      obtain ⟨vs, rfl, s1, o1, V1⟩ := V_agg hV
      obtain ⟨us, hus, s2, o2, V2⟩ := V_agg v1
      have hag : isAggD tk.desc = true := by rw [hfs]; rfl
      have run : (Op.equal kt (.agg vs) e.key).run P w = .ok (keqL ks ps) w :=
        eqA_sound hte hn 8 9992 kt tk _ _ ks ps _ htk (by rw [hag]; exact ⟨vs, rfl, s1, o1, V1⟩) (by rw [hag]; exact ⟨us, hus, s2, o2, V2⟩) heq
      cases hb : keqL ks ps with
      | true =>
        rw [hb] at run
        have e1 := (keqL_iff h1 h2).1 hb
        subst e1
        have e2 : vs = us := (key_inj h1 h2 s1 V1 s2 V2).2 rfl
        subst e2
        exact .inr ⟨0, e, pv, by simp [Instr.findAsking, run], rfl, hus, rfl, v2⟩
      | false =>
        rw [hb] at run
        have hne : ks ≠ ps := fun e => by rw [(keqL_iff h1 h2).2 e] at hb; cases hb
        rcases find_key hte hn hk hV ents es (i + 1) (by simpa using hl) (fun j e' p' q1 q2 => hE (j + 1) e' p' (by simpa using q1) (by simpa using q2)) hall.2 with ⟨q1, q2⟩ | ⟨j, e', v, q1, q2, q3, q4, q5⟩
        · refine .inl ⟨by simp [Instr.findAsking, run, q1], fun p hp => ?_⟩
          rcases List.mem_cons.1 hp with rfl | hp
          · intro e'
            injection e' with e'
            exact hne e'.symm
          · exact q2 p hp
        · exact .inr ⟨j + 1, e', v, by simp [Instr.findAsking, run, q1]; omega, by simpa using q2, q3, by simpa using q4, q5⟩
    | _ => simp [keyA] at hall
end
end Go.Eng
/- The engine, part 34: look-ups and entries of maps whose keys are structs. -/
namespace Go.Eng
open Go.WideShapes

section
variable {C : Ctx} {N : Nat} {o : Oper} {T : Nat → Option AV} {O : Nat → Option AObj} {k : Nat} {te : TE}

theorem OpStep.lookupA (hte : TE.ok C.P te) (hn : ∀ t ti, lk te t = some ti → isAggD ti.desc = false → ti.sz = 1) {mt kt et : TypeId} {mx kx : Operand} {ok : Bool} {r : Nat} {es : List (AV × AV)} {ku u0 u : AV} {ti tk tie : TI} (res : Option AV)
    (hop : o.op = .lookup mt mx kx ok) (hd : dstOK N o.dst = true) (hm : evO T mx = some (.map r)) (hk : evO T kx = some ku) (ht : lk te mt = some ti) (htd : ti.desc = .map kt et) (het : lk te et = some tie)
    (hO : O r = some (.amap es)) (hkK : keyA te kt ku = true) (hz : zeroV tie.zero = some u0) (hks : (es.all fun p => keyA te kt p.1) = true)
    (hu : (match ok with | true => .tuple [res.getD u0, .bool res.isSome] | false => res.getD u0) = u) (hH : Holds es ku res) (huniq : ∀ (j j' : Nat) v v', es[j]? = some (ku, v) → es[j']? = some (ku, v') → v = v') : OpStep C N o T O k u [] := by
  intro E T' O' bs a w K Q hT hOs hr hf hK
  have hmv := evO_sound hr.1 (evO_mono hT hm)
  have hkv := evO_sound hr.1 (evO_mono hT hk)
  obtain ⟨b, c, ents, clock, h1, h2, h3, h4⟩ := hr.2.obj r _ (hOs _ _ hO)
  generalize hmx : a.eval mx = mv at hmv
  generalize hkx : a.eval kx = kv at hkv
  cases hmv with | map hbr =>
  rw [h1] at hbr
  injection hbr with hbr
  injection hbr with e1 e2
  subst e1; subst e2
  have hund := run_und hte (w := w) ht
  have hzr := run_zero hte (w := w) het
  have fin : ∀ v, (Instr.lookup mt (.map (some b)) kv ok).run C.P w = .ok v w → V w (MB E O' bs) bs v u → o.wp C.P a w K Q := by
    intro v hv hV
    have : (execOp a.eval o).run C.P w = .ok (.value v) w := by simp [execOp, hop, hmx, hkx, hv]
    unfold Oper.wp
    rw [this]
    exact hK bs _ _ (fun _ _ => rfl) ⟨hr.1.putF hd hV, hr.2⟩
  obtain ⟨ks, rfl⟩ : ∃ ks, ku = .agg ks := by
    cases ku with
    | agg ks => exact ⟨ks, rfl⟩
    | _ => simp [keyA] at hkK
  obtain ⟨tk2, fs, hk2, hfs, _⟩ := eqA_agg hn hkK hkK
  have hund2 : C.P.underlying kt = some (.struct fs) := by rw [(hte kt tk2 hk2).1, hfs]
  have hck := fun em => checkKey_key hte hn hkK hkv em
  have hfk : (Instr.findKey kt kv ents.toList).run C.P w = (Instr.findAsking kt kv ents.toList).run C.P w := run_findKey_eq w (by rw [hund2]) kv ents.toList
  have hst := stays_key (P := C.P) hn hkK hkv
  rcases find_key hte hn hkK hkv ents.toList es 0 (by simpa using h3.1) (fun j e p q1 q2 => h3.2 j e p (by simpa using q1) q2) hks with ⟨f1, f2⟩ | ⟨j, e, v, f1, f20, f3, f4, f5⟩
  · have hres : res = none := by
      cases res with
      | none => rfl
      | some v => obtain ⟨j, hj⟩ := hH; exact absurd rfl (f2 _ (List.mem_of_getElem? hj))
    subst hres
    refine fin (if ok then .tuple #[tie.zero, .bool false] else tie.zero) ?_ ?_
    · simp [Instr.lookup, hund, htd, MapKept.run_getObj_map h2, hck, hfk, f1, hzr, Result.andThen]
    · subst hu
      have hz' : V w (MB E O' bs) bs tie.zero u0 := zeroV_sound hz
      cases ok with
      | false => exact hz'
      | true =>
        refine .tuple rfl fun j v u hv hu => ?_
        match j with
        | 0 => simp at hv hu; subst hv; subst hu; exact hz'
        | 1 => simp at hv hu; subst hv; subst hu; exact .bool
        | j + 2 => simp at hv
  · rw [Nat.zero_add] at f1
    have hres : res = some v := by
      cases res with
      | none => exact absurd rfl (hH _ (List.mem_of_getElem? f4))
      | some v' => obtain ⟨j', hj'⟩ := hH; rw [huniq _ _ _ _ hj' f4]
    subst hres
    refine fin (if ok then .tuple #[e.val, .bool true] else e.val) ?_ ?_
    · simp [Instr.lookup, hund, htd, MapKept.run_getObj_map h2, hck, hfk, f1, Result.andThen]
    · subst hu
      cases ok with
      | false => exact f5
      | true =>
        refine .tuple rfl fun j v u hv hu => ?_
        match j with
        | 0 => simp at hv hu; subst hv; subst hu; exact f5
        | 1 => simp at hv hu; subst hv; subst hu; exact .bool
        | j + 2 => simp at hv

theorem OpStep.mapUpdateA (hte : TE.ok C.P te) (hn : ∀ t ti, lk te t = some ti → isAggD ti.desc = false → ti.sz = 1) {mt kt et : TypeId} {mx kx vx : Operand} {r : Nat} {es es' : List (AV × AV)} {ku vu : AV} {ti tk : TI}
    (hop : o.op = .mapUpdate mt mx kx vx) (hd : o.dst = none) (hm : evO T mx = some (.map r)) (hk : evO T kx = some ku) (hv : evO T vx = some vu) (ht : lk te mt = some ti) (htd : ti.desc = .map kt et) (hkt : lk te kt = some tk)
    (hO : O r = some (.amap es)) (hkK : keyA te kt ku = true) (hks : (es.all fun p => keyA te kt p.1) = true)
    (hH : (∀ (j : Nat) v, es[j]? = some (ku, v) → es' = es.set j (ku, vu)) ∧ ((∀ p ∈ es, p.1 ≠ ku) → es' = es ++ [(ku, vu)])) : OpStep C N o T O k .any [(r, .amap es')] := by
  intro E T' O' bs a w K Q hT hOs hr hf hK
  have hmv := evO_sound hr.1 (evO_mono hT hm)
  have hkv := evO_sound hr.1 (evO_mono hT hk)
  have hvv := evO_sound hr.1 (evO_mono hT hv)
  have hOr := hOs _ _ hO
  obtain ⟨b, c, ents, clock, h1, h2, h3, h4⟩ := hr.2.obj r _ hOr
  generalize hmx : a.eval mx = mv at hmv
  generalize hkx : a.eval kx = kv at hkv
  generalize hvx : a.eval vx = vv at hvv
  cases hmv with | map hbr =>
  rw [h1] at hbr
  injection hbr with hbr
  injection hbr with e1 e2
  subst e1; subst e2
  have hund := run_und hte (w := w) ht
  obtain ⟨ks, rfl⟩ : ∃ ks, ku = .agg ks := by
    cases ku with
    | agg ks => exact ⟨ks, rfl⟩
    | _ => simp [keyA] at hkK
  obtain ⟨tk2, fs, hk2, hfs, _⟩ := eqA_agg hn hkK hkK
  have hund2 : C.P.underlying kt = some (.struct fs) := by rw [(hte kt tk2 hk2).1, hfs]
  have hck := fun em => checkKey_key hte hn hkK hkv em
  have hfk : (Instr.findKey kt kv ents.toList).run C.P w = (Instr.findAsking kt kv ents.toList).run C.P w := run_findKey_eq w (by rw [hund2]) kv ents.toList
  have hst := stays_key (P := C.P) hn hkK hkv
  have fin : ∀ ents' clock', (Instr.mapUpdate mt (.map (some b)) kv vv).run C.P w = .ok () { w with heap := w.heap.setIfInBounds b (.map ents' clock') } →
      (∀ w' M', Step w (MB E O' bs) bs w' M' bs → EntOK w' M' bs ents' es') → BornOK ents' clock' → o.wp C.P a w K Q := by
    intro ents' clock' hrun hent hborn
    have : (execOp a.eval o).run C.P w = .ok .skip { w with heap := w.heap.setIfInBounds b (.map ents' clock') } := by simp [execOp, hop, hmx, hkx, hvx, hrun]
    unfold Oper.wp
    rw [this]
    obtain ⟨g1, g2⟩ := MapKept.heap_set (o' := .map ents' clock') h2
    obtain ⟨hS, hW⟩ := hr.2.modify (x := r) (o := .amap es') hOr rfl h1 (w' := { w with heap := w.heap.setIfInBounds b (.map ents' clock') }) (fun b' hb' => g2 b' hb') (by simp) rfl ⟨rfl, fun _ => Nat.le_refl _⟩ rfl rfl
      (fun hS => ⟨b, c, ents', clock', h1, g1, hent _ _ hS, hborn⟩)
    refine hK bs _ _ (fun _ _ => rfl) ⟨?_, hW⟩
    rw [hd]
    exact hr.1.step hS
  rcases find_key hte hn hkK hkv ents.toList es 0 (by simpa using h3.1) (fun j e p q1 q2 => h3.2 j e p (by simpa using q1) q2) hks with ⟨f1, f2⟩ | ⟨j, e, v, f1, f20, f3, f4, f5⟩
  · have he := hH.2 f2
    subst he
    refine fin (ents.push ⟨kv, vv, clock⟩) (clock + 1) ?_ (fun w' M' hS => ⟨by simp [h3.1], fun i e p hi hp => ?_⟩) ⟨by simp [h4.1], fun i e hi => ?_⟩
    · simp [Instr.mapUpdate, hund, htd, MapKept.run_getObj_map h2, hck, hfk, f1, MapKept.run_setObj_map _ h2, Result.andThen]
    · rw [Array.getElem?_push] at hi
      split at hi
      · rename_i hie
        simp only [Option.some.injEq] at hi
        subst hi
        rw [hie, h3.1] at hp
        simp at hp
        subst hp
        exact ⟨hkv.step hS, hvv.step hS⟩
      · have hlt : i < es.length := by rw [← h3.1]; exact (Array.getElem?_eq_some_iff.1 hi).1
        rw [List.getElem?_append_left hlt] at hp
        obtain ⟨x, y⟩ := h3.2 i e p hi hp
        exact ⟨x.step hS, y.step hS⟩
    · rw [Array.getElem?_push] at hi
      split at hi
      · rename_i hie
        simp only [Option.some.injEq] at hi
        subst hi
        rw [hie]; exact h4.1
      · exact h4.2 i e hi
  · have f2 : ents[j]? = some e := by simpa using f20
    rw [Nat.zero_add] at f1
    have he := hH.1 j v f4
    subst he
    subst f3
    refine fin (ents.modify j fun e' => { e' with key := e.key, val := vv }) clock ?_ (fun w' M' hS => ⟨by simp [h3.1], fun i e' p hi hp => ?_⟩) ⟨by simp [h4.1], fun i e' hi => ?_⟩
    · simp [Instr.mapUpdate, hund, htd, MapKept.run_getObj_map h2, hck, hfk, f1, f2, hst, MapKept.run_setObj_map _ h2, Result.andThen]
    · rw [Array.getElem?_modify] at hi
      split at hi
      · rename_i hji
        subst hji
        rw [f2] at hi
        simp only [Option.map_some, Option.some.injEq] at hi
        subst hi
        have hlt : j < es.length := (List.getElem?_eq_some_iff.1 f4).1
        rw [List.getElem?_set_self hlt] at hp
        simp only [Option.some.injEq] at hp
        subst hp
        exact ⟨hkv.step hS, hvv.step hS⟩
      · rename_i hji
        rw [List.getElem?_set_ne hji] at hp
        obtain ⟨x, y⟩ := h3.2 i e' p hi hp
        exact ⟨x.step hS, y.step hS⟩
    · rw [Array.getElem?_modify] at hi
      split at hi
      · rename_i hji
        subst hji
        rw [f2] at hi
        simp only [Option.map_some, Option.some.injEq] at hi
        subst hi
        exact h4.2 j e f2
      · exact h4.2 i e' hi
end
end Go.Eng
/- The engine, part 32: strings out of bytes; make; look-ups by a function. -/
namespace Go.Eng
open Go.RowKit

def intOf : AV → Int
  | .int _ n => n
  | _ => 0
def boolOf : AV → Bool
  | .bool b => b
  | _ => false
def strOf : AV → List UInt8
  | .str s => s
  | _ => []
def isU8 : List AV → Bool
  | [.int .u8 _] => true
  | _ => false
def bytesA (m : Nat) (g : Nat → List AV) : List UInt8 := (List.range m).map fun i => UInt8.ofNat (intOf ((g i).headD .any)).toNat

theorem push_bytes : ∀ (l : List Int) (r : ByteArray), (l.foldl (fun r n => r.push (UInt8.ofNat n.toNat)) r).data.toList = r.data.toList ++ l.map fun n => UInt8.ofNat n.toNat
  | [], r => by simp
  | n :: l, r => by
    simp only [List.foldl_cons, List.map_cons]
    rw [push_bytes l]
    simp [ByteArray.push]

section
variable {C : Ctx} {N : Nat} {o : Oper} {T : Nat → Option AV} {O : Nat → Option AObj} {k : Nat} {te : TE}

theorem OpStep.bytesStr (hte : TE.ok C.P te) {src dst e : TypeId} {ts td tie : TI} {x : Operand} {u : AV} {m : Nat} {g : Nat → List AV} {vc : Prop} (hop : o.op = .convert src dst x) (hd : dstOK N o.dst = true) (hs : lk te src = some ts) (hsd : ts.desc = .slice e)
    (he : lk te e = some tie) (hed : tie.desc = .int .u8) (hdd : lk te dst = some td) (htd : td.desc = .string) (hx : evO T x = some u) (hu : srcA O 1 u = some (m, g, vc)) (hvc : vc) (hg : ∀ i, i < m → isU8 (g i) = true) :
    OpStep C N o T O k (.str (bytesA m g)) [] := by
  intro E T' O' bs a w K Q hT hOs hr hf hK
  have hxv := evO_sound hr.1 (evO_mono hT hx)
  obtain ⟨A, c, news, hv, hlen, hcell, h1, hgl, hV⟩ := srcA_sound hr.2 hxv (srcA_mono hOs hu) hvc
  rw [Nat.mul_one] at hlen
  have h1' : (P : Program) → P = C.P → P.underlying src = some (.slice e) := fun P hP => by rw [hP, ← hsd]; exact (hte src ts hs).1
  have hu1 := h1' C.P rfl
  have hu2 : C.P.underlying e = some (.int .u8) := by rw [← hed]; exact (hte e tie he).1
  have hu3 : C.P.underlying dst = some .string := by rw [← htd]; exact (hte dst td hdd).1
  -- the cells are bytes
  let ns : List Int := (List.range m).map fun i => intOf ((g i).headD .any)
  have hns : news = ns.map (Value.int .u8) := by
    refine List.ext_getElem? fun j => ?_
    rcases Nat.lt_or_ge j m with hj | hj
    · have hlt : j < news.length := by omega
      have hgj := hg j hj
      obtain ⟨n, hn⟩ : ∃ n, g j = [.int .u8 n] := by
        unfold isU8 at hgj
        split at hgj
        · rename_i n hh; exact ⟨n, hh⟩
        · cases hgj
      have := hV j hj 0 (.int .u8 n) (news[j]) (by omega) (by rw [hn]; rfl) (by simp [hlt])
      have hi := this.int_iff
      simp [hlt, hi, ns, hj, hn, intOf]
    · rw [List.getElem?_eq_none (by omega), List.getElem?_eq_none (by simp [ns]; omega)]
  have hrun : ∃ b : ByteArray, (convert src dst (a.eval x)).run C.P w = .ok (.string b) w ∧ b.data.toList = bytesA m g := by
    rw [hv, run_convert_bytes_string w src dst e A m c hu1 hu2 hu3]
    cases A with
    | none =>
      have hm0 : m = 0 := by
        rcases Nat.eq_zero_or_pos m with h | h
        · exact h
        · obtain ⟨ad, had, _⟩ := hcell h; cases had
      subst hm0
      exact ⟨.empty, by simp [Conv.bytesToString], by simp [bytesA]⟩
    | some ad =>
      have hl : (loadCells ad m).run C.P w = .ok (ns.map (Value.int .u8)).toArray w := by
        have := run_loadCells_list (P := C.P) w ad news (fun j v hj => by
          have hjm : j < m := by rw [← hlen]; exact (List.getElem?_eq_some_iff.1 hj).1
          obtain ⟨ad', had, hc⟩ := hcell (by omega)
          cases had
          exact hc j v hj)
        rw [hlen, hns] at this
        exact this
      refine ⟨_, run_bytesToString w ad m c ns hl, ?_⟩
      rw [push_bytes]
      have he0 : ByteArray.empty.data.toList = [] := rfl
      rw [he0]
      simp [ns, bytesA]
  obtain ⟨b, hb, hbl⟩ := hrun
  have : (execOp a.eval o).run C.P w = .ok (.value (.string b)) w := by simp [execOp, hop, hb]
  unfold Oper.wp
  rw [this]
  exact hK bs _ _ (fun _ _ => rfl) ⟨hr.1.putF hd (.str hbl), hr.2⟩

theorem OpStep.runeStr (hte : TE.ok C.P te) {src dst : TypeId} {ts td : TI} {x : Operand} {q q' : IntKind} {n : Int} (hop : o.op = .convert src dst x) (hd : dstOK N o.dst = true) (hs : lk te src = some ts) (hsd : ts.desc = .int q')
    (hdd : lk te dst = some td) (htd : td.desc = .string) (hx : evO T x = some (.int q n)) : OpStep C N o T O k (.str (Utf8.encode n).data.toList) [] := by
  intro E T' O' bs a w K Q hT hOs hr hf hK
  have hxv := (evO_sound hr.1 (evO_mono hT hx)).int_iff
  have hu1 := run_und hte (w := w) hs
  have hu3 := run_und hte (w := w) hdd
  rw [hsd] at hu1
  rw [htd] at hu3
  have hrun : (convert src dst (.int q n)).run C.P w = .ok (.string (Utf8.encode n)) w := by simp [convert, hu1, hu3, Conv.intToString]
  have : (execOp a.eval o).run C.P w = .ok (.value (.string (Utf8.encode n))) w := by simp [execOp, hop, hxv, hrun]
  unfold Oper.wp
  rw [this]
  exact hK bs _ _ (fun _ _ => rfl) ⟨hr.1.putF hd (.str rfl), hr.2⟩

theorem OpStep.make (hte : TE.ok C.P te) {t e : TypeId} {ti tie : TI} {lx cx : Operand} {kl kc : IntKind} {l c : Int} {zs : List AV} (hop : o.op = .makeSlice t lx cx) (hd : dstOK N o.dst = true) (ht : lk te t = some ti) (htd : ti.desc = .slice e)
    (he : lk te e = some tie) (hz : avcs tie.zero.cells.toList = some zs) (hzl : zs.length = tie.sz) (hl : evO T lx = some (.int kl l)) (hc : evO T cx = some (.int kc c)) (h0 : 0 ≤ l) (hlc : l ≤ c) (hb : (tie.bytes : Int) * c ≤ 281474976710656) (hm : c ≤ 9223372036854775807) :
    OpStep C N o T O k (.own k l.toNat) [(k, .row e tie.sz l.toNat (fun _ => zs) false)] := by
  intro E T' O' bs a w K Q hT hOs hr hf hK
  obtain ⟨f1, f2⟩ := hf k (Nat.le_refl _) (by omega)
  have hlv := (evO_sound hr.1 (evO_mono hT hl)).int_iff
  have hcv := (evO_sound hr.1 (evO_mono hT hc)).int_iff
  have hu1 : C.P.underlying t = some (.slice e) := by rw [← htd]; exact (hte t ti ht).1
  obtain ⟨i, hi, hisz, hib, hiz⟩ := (hte e tie he).2.1
  have hrun := run_make (P := C.P) w t e i tie.zero hu1 hi hiz kl kc l c h0 hlc (by rw [hib]; exact hb) hm
  have hz' := avcs_sound (w := w) (M := MB E O' bs) (bs := bs) _ _ hz
  have hzsz : tie.zero.cells.size = zs.length := by simpa using hz'.1
  have hcells : ∀ j, j < c.toNat * tie.sz → (madeCells tie.zero.cells (c.toNat * i.size))[j]? = tie.zero.cells[j % tie.sz]? := by
    intro j hj
    have hsz : 0 < tie.sz := by
      rcases Nat.eq_zero_or_pos tie.sz with h | h
      · rw [h] at hj; simp at hj
      · exact h
    have hmod : j % tie.sz < tie.zero.cells.size := by rw [hzsz, hzl]; exact Nat.mod_lt _ hsz
    have e : j % tie.zero.cells.size = j % tie.sz := by rw [hzsz, hzl]
    unfold madeCells
    rw [hisz, Array.getElem?_eq_getElem hmod]
    simp only [Array.getElem?_map, Array.getElem?_range, hj, if_true, Option.map_some, e]
    exact congrArg some (getElem!_pos tie.zero.cells (j % tie.sz) hmod)
  have hcsz : (madeCells tie.zero.cells (c.toNat * i.size)).size = c.toNat * tie.sz := by rw [size_madeCells, hisz]
  obtain ⟨hS, hW⟩ := new_row hr.2 f2 (w1 := w) rfl rfl ⟨rfl, fun _ => Nat.le_refl _⟩ rfl (vs := madeCells tie.zero.cells (c.toNat * i.size)) (e := e) (sz := tie.sz) (n := l.toNat) (c := c.toNat) (f := fun _ => zs) (by omega) (by unfold maxLen; omega) hcsz (fun _ _ => hzl)
    (fun i' hi' j hj v hv => by
      have hlt : i' * tie.sz + j < c.toNat * tie.sz := by
        have : (i' + 1) * tie.sz ≤ c.toNat * tie.sz := Nat.mul_le_mul_right _ (by omega)
        rw [Nat.add_mul, Nat.one_mul] at this
        omega
      rw [hcells _ hlt] at hv
      exact hz'.2.1 _ v (by simpa using hv))
    (fun i' hi' j v u hj hv hu => by
      have hlt : i' * tie.sz + j < c.toNat * tie.sz := by
        have : (i' + 1) * tie.sz ≤ c.toNat * tie.sz := Nat.mul_le_mul_right _ (by omega)
        rw [Nat.add_mul, Nat.one_mul] at this
        omega
      rw [hcells _ hlt] at hv
      have e1 : (i' * tie.sz + j) % tie.sz = j := by rw [Nat.mul_comm, Nat.mul_add_mod, Nat.mod_eq_of_lt hj]
      rw [e1] at hv
      exact hz'.2.2 j v u (by simpa using hv) hu)
  have : (execOp a.eval o).run C.P w = .ok (.value (.slice (some ⟨w.heap.size, 0, none⟩) l.toNat c.toNat)) (w.alloc (.cells (madeCells tie.zero.cells (c.toNat * i.size)) e)) := by
    simp [execOp, hop, hlv, hcv, hrun]
  unfold Oper.wp
  rw [this]
  exact hK (up bs k (.blk w.heap.size c.toNat)) _ _ (fun r hr => up_other _ _ _ (by omega)) ⟨(hr.1.step hS).putF hd (.own (up_same _ _ _) (by omega) (by unfold maxLen; omega)), hW⟩
end

def keq : AV → AV → Bool
  | .str a, .str b => decide (a = b)
  | .int k a, .int k' b => decide (k = k') && decide (a = b)
  | .agg a, .agg b => keqL a b
  | _, _ => false

def mget : List (AV × AV) → AV → Option AV
  | [], _ => none
  | p :: l, k => match keq p.1 k with
    | true => some p.2
    | false => mget l k

def mset : List (AV × AV) → AV → AV → List (AV × AV)
  | [], k, v => [(k, v)]
  | p :: l, k, v => match keq p.1 k with
    | true => (k, v) :: l
    | false => p :: mset l k v

/-- The keys are of the key's type, each once. -/
def KeysOK (d : TypeDesc) (es : List (AV × AV)) : Prop := (es.all fun p => isK d p.1) = true ∧ (es.map Prod.fst).Nodup

theorem isK_cases {d : TypeDesc} {a : AV} (h : isK d a = true) : (d = .string ∧ ∃ s, a = .str s) ∨ ∃ k n, d = .int k ∧ a = .int k n := by
  unfold isK at h
  split at h
  · exact .inl ⟨rfl, _, rfl⟩
  · have := of_decide_eq_true h
    subst this
    exact .inr ⟨_, _, rfl, rfl⟩
  · cases h

theorem keq_iff {d : TypeDesc} {a b : AV} (ha : isK d a = true) (hb : isK d b = true) : keq a b = true ↔ a = b := by
  rcases isK_cases ha with ⟨rfl, s, rfl⟩ | ⟨k, n, rfl, rfl⟩
  · rcases isK_cases hb with ⟨_, s', rfl⟩ | ⟨k', n', h, rfl⟩
    · simp [keq]
    · cases h
  · rcases isK_cases hb with ⟨h, s', rfl⟩ | ⟨k', n', h, rfl⟩
    · cases h
    · cases h
      simp [keq]

theorem mget_holds {K : AV → Bool} (hK : ∀ a b, K a = true → K b = true → (keq a b = true ↔ a = b)) {k : AV} (hk : K k = true) : ∀ {es : List (AV × AV)}, (es.all fun p => K p.1) = true → Holds es k (mget es k)
  | [], _ => by simp [mget, Holds]
  | p :: l, h => by
    simp only [List.all_cons, Bool.and_eq_true] at h
    simp only [mget]
    cases hb : keq p.1 k with
    | true =>
      have := (hK _ _ h.1 hk).1 hb
      exact ⟨0, by simp [← this]⟩
    | false =>
      have ih := mget_holds hK hk h.2
      have hne : p.1 ≠ k := fun e => by rw [(hK _ _ h.1 hk).2 e] at hb; cases hb
      show Holds (p :: l) k (mget l k)
      cases hm : mget l k with
      | none =>
        rw [hm] at ih
        intro q hq
        rcases List.mem_cons.1 hq with rfl | hq
        · exact hne
        · exact ih q hq
      | some v =>
        rw [hm] at ih
        obtain ⟨j, hj⟩ := ih
        exact ⟨j + 1, by simpa using hj⟩

theorem keys_uniq {es : List (AV × AV)} (h : (es.map Prod.fst).Nodup) {k : AV} {j j' : Nat} {v v' : AV} (h1 : es[j]? = some (k, v)) (h2 : es[j']? = some (k, v')) : j = j' := by
  have e1 : (es.map Prod.fst)[j]? = some k := by simp [h1]
  have e2 : (es.map Prod.fst)[j']? = some k := by simp [h2]
  exact (List.getElem?_inj (List.getElem?_eq_some_iff.1 e1).1 h).1 (e1.trans e2.symm)

theorem mset_at {K : AV → Bool} (hK : ∀ a b, K a = true → K b = true → (keq a b = true ↔ a = b)) {k v : AV} (hk : K k = true) : ∀ {es : List (AV × AV)}, (es.all fun p => K p.1) = true → (es.map Prod.fst).Nodup → ∀ (j : Nat) (v' : AV), es[j]? = some (k, v') → mset es k v = es.set j (k, v)
  | [], _, _, j, v', h => by simp at h
  | p :: l, h, hn, j, v', hj => by
    simp only [List.all_cons, Bool.and_eq_true] at h
    simp only [mset]
    cases hb : keq p.1 k with
    | true =>
      have hp := (hK _ _ h.1 hk).1 hb
      have : j = 0 := keys_uniq hn (k := k) (v := v') (v' := p.2) hj (by simp [← hp])
      subst this
      simp
    | false =>
      cases j with
      | zero =>
        simp at hj
        subst hj
        rw [(hK _ _ h.1 hk).2 rfl] at hb; cases hb
      | succ j =>
        simp only [List.map_cons, List.nodup_cons] at hn
        rw [mset_at hK hk h.2 hn.2 j v' (by simpa using hj)]
        simp

theorem mset_new {K : AV → Bool} (hK : ∀ a b, K a = true → K b = true → (keq a b = true ↔ a = b)) {k v : AV} (hk : K k = true) : ∀ {es : List (AV × AV)}, (es.all fun p => K p.1) = true → (∀ p ∈ es, p.1 ≠ k) → mset es k v = es ++ [(k, v)]
  | [], _, _ => rfl
  | p :: l, h, hn => by
    simp only [List.all_cons, Bool.and_eq_true] at h
    simp only [mset]
    cases hb : keq p.1 k with
    | true => exact absurd ((hK _ _ h.1 hk).1 hb) (hn p (by simp))
    | false =>
      rw [mset_new hK hk h.2 fun q hq => hn q (List.mem_cons_of_mem _ hq)]
      simp

theorem keqA_iff {te : TE} {kt : TypeId} (hn : ∀ t ti, lk te t = some ti → isAggD ti.desc = false → ti.sz = 1) : ∀ a b : AV, keyA te kt a = true → keyA te kt b = true → (keq a b = true ↔ a = b) := by
  intro a b ha hb
  cases a with
  | agg xs =>
    cases b with
    | agg ys =>
      obtain ⟨_, _, _, _, _, h1, h2, _⟩ := eqA_agg hn ha hb
      simp only [keq, keqL_iff h1 h2, AV.agg.injEq]
    | _ => simp [keyA] at hb
  | _ => simp [keyA] at ha
/-- The keys are structs of the key's type, each once. -/
def KeysA (te : TE) (kt : TypeId) (es : List (AV × AV)) : Prop := (es.all fun p => keyA te kt p.1) = true ∧ (es.map Prod.fst).Nodup

/-- A value in the form of its type's zero. -/
def shape0 : AV → AV → AV
  | .bool _, x => .bool (boolOf x)
  | .int k _, x => .int k (intOf x)
  | .str _, x => .str (strOf x)
  | _, x => x
def cellA (x : AV) (j : Nat) : AV := match x with
  | .agg cs => cs.getD j .any
  | _ => .any
def shapeL (x : AV) : Nat → List AV → List AV
  | _, [] => []
  | j, z :: zs => shape0 z (cellA x j) :: shapeL x (j + 1) zs
def shapeA : AV → AV → AV
  | .bool _, x => .bool (boolOf x)
  | .int k _, x => .int k (intOf x)
  | .str _, x => .str (strOf x)
  | .agg zs, x => .agg (shapeL x 0 zs)
  | _, x => x

abbrev XOut := AV × List (Nat × AObj) × Prop

/-- Further operations: a condition, what comes if it holds, what comes if not. -/
def evalX (te : TE) (T : Nat → Option AV) (O : Nat → Option AObj) (k : Nat) (dst : Option Tmp) : Op → Option (Bool × XOut × XOut)
  | .lookup mt mx kx ok => match evO T mx, evO T kx, lk te mt with
    | some (.map r), some ku, some ti => match ti.desc with
      | .map kt et => match lk te kt, lk te et, O r with
        | some tk, some tie, some (.amap es) => match zeroV tie.zero, isK tk.desc ku with
          | some u0, true => some (true, ((match ok with
              | true => .tuple [shapeA u0 ((mget es ku).getD u0), .bool (mget es ku).isSome]
              | false => shapeA u0 ((mget es ku).getD u0)), [], KeysOK tk.desc es ∧ shapeA u0 ((mget es ku).getD u0) = (mget es ku).getD u0), (.any, [], True))
          | some u0, false => match keyA te kt ku with
            | true => some (true, ((match ok with
              | true => .tuple [shapeA u0 ((mget es ku).getD u0), .bool (mget es ku).isSome]
              | false => shapeA u0 ((mget es ku).getD u0)), [], KeysA te kt es ∧ shapeA u0 ((mget es ku).getD u0) = (mget es ku).getD u0), (.any, [], True))
            | false => none
          | _, _ => none
        | _, _, _ => none
      | _ => none
    | _, _, _ => none
  | .mapUpdate mt mx kx vx => match evO T mx, evO T kx, evO T vx, lk te mt with
    | some (.map r), some ku, some vu, some ti => match ti.desc, dst with
      | .map kt _, none => match lk te kt, O r with
        | some tk, some (.amap es) => match isK tk.desc ku with
          | true => some (true, (.any, [(r, .amap (mset es ku vu))], KeysOK tk.desc es), (.any, [], True))
          | false => match keyA te kt ku with
            | true => some (true, (.any, [(r, .amap (mset es ku vu))], KeysA te kt es), (.any, [], True))
            | false => none
        | _, _ => none
      | _, _ => none
    | _, _, _, _ => none
  | .next x true => match evO T x with
    | some (.ptr r 0) => match O r with
      | some (.siter s pos) => some (decide (pos < s.length), (.tuple [.bool true, .int .i64 pos, .int .i32 (runeAt s pos).1], [(r, .siter s (pos + (runeAt s pos).2))], True), (.tuple [.bool false], [], True))
      | _ => none
    | _ => none
  | .convert src dst x => match lk te src, lk te dst, evO T x with
    | some ts, some td, some u => match ts.desc, td.desc with
      | .slice e, .string => match lk te e with
        | some tie => match tie.desc with
          | .int .u8 => match srcA O 1 u with
            | some (m, g, vc) => some (true, (.str (bytesA m g), [], vc ∧ ∀ i, i < m → isU8 (g i) = true), (.any, [], True))
            | none => none
          | _ => none
        | none => none
      | .int _, .string => match u with
        | .int _ n => some (true, (.str (Utf8.encode n).data.toList, [], True), (.any, [], True))
        | _ => none
      | _, _ => none
    | _, _, _ => none
  | .makeSlice t lx cx => match lk te t, evO T lx, evO T cx with
    | some ti, some (.int _ l), some (.int _ c) => match ti.desc with
      | .slice e => match lk te e with
        | some tie => match avcs tie.zero.cells.toList with
          | some zs => match Nat.beq zs.length tie.sz with
            | true => some (true, (.own k l.toNat, [(k, .row e tie.sz l.toNat (fun _ => zs) false)], 0 ≤ l ∧ l ≤ c ∧ (tie.bytes : Int) * c ≤ 281474976710656 ∧ c ≤ 9223372036854775807), (.any, [], True))
            | false => none
          | none => none
        | none => none
      | _ => none
    | _, _, _ => none
  | _ => none

section
variable {C : Ctx} {N : Nat} {o : Oper} {T T' : Nat → Option AV} {O O' : Nat → Option AObj} {k : Nat} {te : TE}

theorem evalX_mono (hT : Sub T T') (hO : Sub O O') {dst : Option Tmp} {op : Op} {r : Bool × XOut × XOut} (h : evalX te T O k dst op = some r) : evalX te T' O' k dst op = some r := by
  have e1 : ∀ {x u}, evO T x = some u → evO T' x = some u := fun h => evO_mono hT h
  have e4 : ∀ {r o}, O r = some o → O' r = some o := fun h => hO _ _ h
  have e5 : ∀ {sz u r}, srcA O sz u = some r → srcA O' sz u = some r := fun h => srcA_mono hO h
  unfold evalX at h ⊢
  split at h
  all_goals (try simp only [] at h ⊢)
  all_goals (repeat' (split at h))
  all_goals (try (cases h; done))
  all_goals (try (exact h))
  all_goals (try (grind; done))

theorem evalX_ok (hte : TE.ok C.P te) (hn : ∀ t ti, lk te t = some ti → isAggD ti.desc = false → ti.sz = 1) {b : Bool} {x1 x2 : XOut} (h : evalX te T O k o.dst o.op = some (b, x1, x2)) (hd : dstOK N o.dst = true) :
    (b = true → x1.2.2 → OpStep C N o T O k x1.1 x1.2.1) ∧ (b = false → x2.2.2 → OpStep C N o T O k x2.1 x2.2.1) := by
  unfold evalX at h
  split at h
  · rename_i mt mx kx ok hop
    split at h
    · rename_i r ku ti hm hk ht
      split at h
      · rename_i kt et htd
        split at h
        · rename_i tk tie es hkt het hO
          split at h
          · rename_i u0 hz hkK
            simp only [Option.some.injEq, Prod.mk.injEq] at h
            obtain ⟨rfl, rfl, rfl⟩ := h
            refine ⟨fun _ hv => ?_, fun h => (by cases h)⟩
            obtain ⟨⟨h1, h2⟩, h3⟩ := hv
            refine OpStep.lookup hte (mget es ku) hop hd hm hk ht htd hkt het hO hkK hz h1 ?_ (mget_holds (fun _ _ a b => keq_iff a b) hkK h1) (fun j j' v v' q1 q2 => ?_)
            · cases ok <;> simp [h3]
            · have := keys_uniq h2 q1 q2
              subst this
              rw [q1] at q2
              simpa using q2
          · rename_i u0 hz hkK0
            split at h
            · rename_i hkK
              simp only [Option.some.injEq, Prod.mk.injEq] at h
              obtain ⟨rfl, rfl, rfl⟩ := h
              refine ⟨fun _ hv => ?_, fun h => (by cases h)⟩
              obtain ⟨⟨h1, h2⟩, h3⟩ := hv
              refine OpStep.lookupA (tk := tk) hte hn (mget es ku) hop hd hm hk ht htd het hO hkK hz h1 ?_ (mget_holds (keqA_iff hn) hkK h1) (fun j j' v v' q1 q2 => ?_)
              · cases ok <;> simp [h3]
              · have := keys_uniq h2 q1 q2
                subst this
                rw [q1] at q2
                simpa using q2
            · cases h
          · cases h
        · cases h
      · cases h
    · cases h
  · rename_i mt mx kx vx hop
    split at h
    · rename_i r ku vu ti hm hk hv ht
      split at h
      · rename_i kt et htd hdst
        split at h
        · rename_i tk es hkt hO
          split at h
          · rename_i hkK
            simp only [Option.some.injEq, Prod.mk.injEq] at h
            obtain ⟨rfl, rfl, rfl⟩ := h
            refine ⟨fun _ hvc => ?_, fun h => (by cases h)⟩
            obtain ⟨h1, h2⟩ := hvc
            exact OpStep.mapUpdate hte hop hdst hm hk hv ht htd hkt hO hkK h1 ⟨fun j v hj => mset_at (fun _ _ a b => keq_iff a b) hkK h1 h2 j v hj, fun hn => mset_new (fun _ _ a b => keq_iff a b) hkK h1 hn⟩
          · split at h
            · rename_i hkK
              simp only [Option.some.injEq, Prod.mk.injEq] at h
              obtain ⟨rfl, rfl, rfl⟩ := h
              refine ⟨fun _ hvc => ?_, fun h => (by cases h)⟩
              obtain ⟨h1, h2⟩ := hvc
              exact OpStep.mapUpdateA hte hn hop hdst hm hk hv ht htd hkt hO hkK h1 ⟨fun j v hj => mset_at (keqA_iff hn) hkK h1 h2 j v hj, fun hne => mset_new (keqA_iff hn) hkK h1 hne⟩
            · cases h
        · cases h
      · cases h
    · cases h
  · rename_i x hop
    split at h
    · rename_i r hx
      split at h
      · rename_i s pos hO
        simp only [Option.some.injEq, Prod.mk.injEq] at h
        obtain ⟨rfl, rfl, rfl⟩ := h
        exact ⟨fun hb _ => OpStep.nextIn hop hd hx hO (of_decide_eq_true hb), fun hb _ => OpStep.nextOut hop hd hx hO (of_decide_eq_false hb)⟩
      · cases h
    · cases h
  · rename_i src dst x hop
    split at h
    · rename_i ts td u hs hdd hx
      split at h
      · rename_i e hsd htd
        split at h
        · rename_i tie he
          split at h
          · rename_i hed
            split at h
            · rename_i m g vc hu
              simp only [Option.some.injEq, Prod.mk.injEq] at h
              obtain ⟨rfl, rfl, rfl⟩ := h
              exact ⟨fun _ hv => OpStep.bytesStr hte hop hd hs hsd he hed hdd htd hx hu hv.1 hv.2, fun h => (by cases h)⟩
            · cases h
          · cases h
        · cases h
      · rename_i q hsd htd
        split at h
        · simp only [Option.some.injEq, Prod.mk.injEq] at h
          obtain ⟨rfl, rfl, rfl⟩ := h
          exact ⟨fun _ _ => OpStep.runeStr hte hop hd hs hsd hdd htd hx, fun h => (by cases h)⟩
        · cases h
      · cases h
    · cases h
  · rename_i t lx cx hop
    split at h
    · rename_i ti kl l kc c ht hl hc
      split at h
      · rename_i e htd
        split at h
        · rename_i tie he
          split at h
          · rename_i zs hz
            split at h
            · rename_i hzl
              simp only [Option.some.injEq, Prod.mk.injEq] at h
              obtain ⟨rfl, rfl, rfl⟩ := h
              exact ⟨fun _ hv => OpStep.make hte hop hd ht htd he hz (Nat.eq_of_beq_eq_true hzl) hl hc hv.1 hv.2.1 hv.2.2.1 hv.2.2.2, fun h => (by cases h)⟩
            · cases h
          · cases h
        · cases h
      · cases h
    · cases h
  · cases h
end

end Go.Eng
