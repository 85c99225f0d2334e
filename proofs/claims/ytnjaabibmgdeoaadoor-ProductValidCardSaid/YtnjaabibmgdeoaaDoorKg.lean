/- Lemmas that the tied card of ProductValid is proved by. -/
import Derived.Test.YtnjaabibmgdeoaaDoorKf
import Derived.Laws.BytesString
import Derived.Laws.MakeOwn
/- The engine, part 29: ranging over a string. -/
namespace Go.Eng
open Go.RowKit

/-- The rune at a place, and its width. -/
def runeAt (s : List UInt8) (i : Nat) : Nat × Nat := Utf8.decode ⟨s.toArray⟩ i

section
variable {C : Ctx} {N : Nat} {o : Oper} {T : Nat → Option AV} {O : Nat → Option AObj} {k : Nat}

theorem run_getIter {P : Program} {w : World} {b : Nat} {s : ByteArray} {p : Nat} (h : w.heap[b]? = some (.stringIter s p)) : (getObj b).run P w = .ok (.stringIter s p) w := by simp [getObj, Sem.run, h]
theorem run_setIter {P : Program} {w : World} {b : Nat} {s : ByteArray} {p : Nat} (o : Obj) (h : w.heap[b]? = some (.stringIter s p)) : (setObj b o).run P w = .ok () { w with heap := w.heap.setIfInBounds b o } := by simp [setObj, Sem.run, h]

theorem OpStep.nextIn {x : Operand} {r pos : Nat} {s : List UInt8} (hop : o.op = .next x true) (hd : dstOK N o.dst = true) (hx : evO T x = some (.ptr r 0)) (hO : O r = some (.siter s pos)) (hp : pos < s.length) :
    OpStep C N o T O k (.tuple [.bool true, .int .i64 pos, .int .i32 (runeAt s pos).1]) [(r, .siter s (pos + (runeAt s pos).2))] := by
  intro E T' O' bs a w K Q hT hOs hr hf hK
  have hxv := evO_sound hr.1 (evO_mono hT hx)
  have hOr := hOs _ _ hO
  obtain ⟨b, c, bytes, h1, h2, h3⟩ := hr.2.obj r _ hOr
  generalize hxx : a.eval x = xv at hxv
  cases hxv with | ptr hbr =>
  rw [h1] at hbr
  injection hbr with hbr
  injection hbr with e1 e2
  subst e1; subst e2
  have hbytes : bytes = ⟨s.toArray⟩ := by cases bytes; simp only [ByteArray.mk.injEq]; subst h3; simp
  have hsz : pos < bytes.size := by subst hbytes; simpa [ByteArray.size] using hp
  obtain ⟨g1, g2⟩ := MapKept.heap_set (o' := .stringIter bytes (pos + (runeAt s pos).2)) h2
  have hrun : (execOp a.eval o).run C.P w = .ok (.value (.tuple #[.bool true, .int .i64 pos, .int .i32 (runeAt s pos).1])) { w with heap := w.heap.setIfInBounds b (.stringIter bytes (pos + (runeAt s pos).2)) } := by
    have e : Utf8.decode bytes pos = runeAt s pos := by rw [hbytes]; rfl
    simp only [execOp, hop, hxx, Instr.next, Sem.run_bind, run_getIter h2, Result.andThen_ok, hsz, if_true, e, run_setIter _ h2, Sem.run_pure, goInt]
  unfold Oper.wp
  rw [hrun]
  obtain ⟨hS, hW⟩ := hr.2.modify (x := r) (o := .siter s (pos + (runeAt s pos).2)) hOr rfl h1 (w' := { w with heap := w.heap.setIfInBounds b (.stringIter bytes (pos + (runeAt s pos).2)) }) (fun b' hb' => g2 b' hb') (by simp) rfl rfl rfl rfl
    (fun hS => ⟨b, c, bytes, h1, g1, h3⟩)
  refine hK bs _ _ (fun _ _ => rfl) ⟨(hr.1.step hS).putF hd ?_, hW⟩
  refine .tuple rfl fun j v u hv hu => ?_
  match j with
  | 0 => simp at hv hu; subst hv; subst hu; exact .bool
  | 1 => simp at hv hu; subst hv; subst hu; exact .int
  | 2 => simp at hv hu; subst hv; subst hu; exact .int
  | j + 3 => simp at hv

theorem OpStep.nextOut {x : Operand} {r pos : Nat} {s : List UInt8} (hop : o.op = .next x true) (hd : dstOK N o.dst = true) (hx : evO T x = some (.ptr r 0)) (hO : O r = some (.siter s pos)) (hp : ¬ pos < s.length) :
    OpStep C N o T O k (.tuple [.bool false]) [] := by
  intro E T' O' bs a w K Q hT hOs hr hf hK
  have hxv := evO_sound hr.1 (evO_mono hT hx)
  have hOr := hOs _ _ hO
  obtain ⟨b, c, bytes, h1, h2, h3⟩ := hr.2.obj r _ hOr
  generalize hxx : a.eval x = xv at hxv
  cases hxv with | ptr hbr =>
  rw [h1] at hbr
  injection hbr with hbr
  injection hbr with e1 e2
  subst e1; subst e2
  have hbytes : bytes = ⟨s.toArray⟩ := by cases bytes; simp only [ByteArray.mk.injEq]; subst h3; simp
  have hsz : ¬ pos < bytes.size := by subst hbytes; simpa [ByteArray.size] using hp
  have hrun : (execOp a.eval o).run C.P w = .ok (.value (.tuple #[.bool false])) w := by
    simp only [execOp, hop, hxx, Instr.next, Sem.run_bind, run_getIter h2, Result.andThen_ok, hsz, if_false, Sem.run_pure]
  unfold Oper.wp
  rw [hrun]
  refine hK bs _ _ (fun _ _ => rfl) ⟨hr.1.putF hd ?_, hr.2⟩
  refine .tuple rfl fun j v u hv hu => ?_
  match j with
  | 0 => simp at hv hu; subst hv; subst hu; exact .bool
  | j + 1 => simp at hv
end

end Go.Eng

/- The engine, part 30: calls that change nothing, with objects handed over. -/
namespace Go.Eng
open Go.RowKit

/-- A call that changes nothing, whatever it is handed. -/
theorem ACalls.quiet {C : Ctx} {f : FuncId} {args : List AV} {objs : List AObj} {u : AV} (he : Enters C.P f)
    (h : ∀ (E : Ent) (bs : Nat → Option Hd) (w : World) (cargs : List Value), WRep C E (lkL objs) bs w → cargs.length = args.length → (∀ (j : Nat) v x, cargs[j]? = some v → args[j]? = some x → V w (MB E (lkL objs) bs) bs v x) →
      Calls C.P f cargs.toArray w fun e w' => ∃ v, e = .returned v ∧ w' = w ∧ V w (MB E (lkL objs) bs) bs v u) : ACalls C f args objs fun u' O => u' = u ∧ O = enum 0 objs := by
  refine ⟨he, fun E bs w cargs h1 h2 h3 h4 h5 h6 h7 => ?_⟩
  refine (h E bs w cargs h4 h6 h7).mono ?_
  rintro e w' ⟨v, rfl, rfl, hV⟩
  have hO : lk (enum 0 objs) = lkL objs := by funext i; rw [lk_enum]; simp [lkL]
  refine ⟨v, u, enum 0 objs, bs, rfl, ⟨rfl, rfl⟩, by rw [hO]; exact h4, by rw [hO]; exact hV, fun r hr => ⟨?_, h5 r (by omega)⟩⟩
  rw [hO]
  simp [lkL, List.getElem?_eq_none_iff]
  omega

mutual
theorem rn_nref (ρ : Nat → Option Nat) : ∀ (u : AV), nref u = true → u.rn ρ = u
  | .any, _ => rfl
  | .bool _, _ => rfl
  | .int _ _, _ => rfl
  | .str _, _ => rfl
  | .nilptr, _ => rfl
  | .vptr _, _ => rfl
  | .nil, _ => rfl
  | .empty, _ => rfl
  | .view _ _ _, _ => rfl
  | .nilmap, _ => rfl
  | .nilfunc, _ => rfl
  | .nilIface, _ => rfl
  | .iface t v, h => by simp only [nref] at h; simp only [AV.rn, rn_nref ρ v h]
  | .agg l, h => by simp only [nref] at h; simp only [AV.rn, rnL_nref ρ l h]
  | .tuple l, h => by simp only [nref] at h; simp only [AV.rn, rnL_nref ρ l h]
  | .func f l, h => by simp only [nref] at h; simp only [AV.rn, rnL_nref ρ l h]
  | .ptr _ _, h => by simp [nref] at h
  | .eptr _ _ _ _, h => by simp [nref] at h
  | .own _ _, h => by simp [nref] at h
  | .sub _ _ _ _, h => by simp [nref] at h
  | .map _, h => by simp [nref] at h
theorem rnL_nref (ρ : Nat → Option Nat) : ∀ (l : List AV), nrefL l = true → AV.rnL ρ l = l
  | [], _ => rfl
  | u :: l, h => by
    simp only [nrefL, Bool.and_eq_true] at h
    simp only [AV.rnL, rn_nref ρ u h.1, rnL_nref ρ l h.2]
end

/-- A cell of a variable of our own. -/
theorem WRep.cell {C : Ctx} {E : Ent} {O : Nat → Option AObj} {bs : Nat → Option Hd} {w : World} (hW : WRep C E O bs w) {r : Nat} {cs : List AV} {t : TypeId} (hO : O r = some (.cells cs t)) {v : Value} (hv : V w (MB E O bs) bs v (.ptr r 0)) {j : Nat} {u : AV} (hu : cs[j]? = some u) :
    ∃ b x, v = .pointer (some ⟨b, 0, none⟩) ∧ w.cell? ⟨b, j, none⟩ = some x ∧ V w (MB E O bs) bs x u := by
  obtain ⟨b, c, vs, h1, h2, h3, h4, h5⟩ := hW.obj r _ hO
  cases hv with | ptr hb =>
  rw [h1] at hb
  injection hb with hb
  injection hb with e1 e2
  subst e1; subst e2
  have hj : j < vs.size := by rw [h3]; exact (List.getElem?_eq_some_iff.1 hu).1
  refine ⟨b, vs[j], rfl, ?_, h5 j _ u (Array.getElem?_eq_getElem hj) hu⟩
  rw [cell_of_row w b j vs t (0, 0) h2]
  simp [hj]

end Go.Eng

/- The engine, part 31: variables of many cells, told as one list. -/
namespace Go.Eng

theorem spliceA_full : ∀ (cs xs : List AV), cs.length = xs.length → spliceA cs 0 xs = some xs
  | [], [], _ => rfl
  | c :: cs, x :: xs, h => by
    have := spliceA_full cs xs (by simpa using h)
    simp [spliceA, this]
  | [], _ :: _, h => by simp at h
  | _ :: _, [], h => by simp at h

section
variable {C : Ctx} {N : Nat} {o : Oper} {T : Nat → Option AV} {O : Nat → Option AObj} {k : Nat} {te : TE}

theorem OpStep.allocW (hte : TE.ok C.P te) {t : TypeId} {ti : TI} {zs : List AV} (ht : lk te t = some ti) (hop : o.op = .alloc t) (hd : dstOK N o.dst = true) (hz : avcs ti.zero.cells.toList = some zs) : OpStep C N o T O k (.ptr k 0) [(k, .cells zs t)] := by
  refine OpStep.eff hte (vc := True) ?_ hd trivial
  rw [hop]
  simp only [evalEff, zeroA, ht, hz]

theorem OpStep.storeW (hte : TE.ok C.P te) {t tt : TypeId} {ti : TI} {x y : Operand} {r : Nat} {cs new : List AV} (ht : lk te t = some ti) (hop : o.op = .store t x y) (hd : dstOK N o.dst = true) (hx : evO T x = some (.ptr r 0)) (hy : evO T y = some (.agg new)) (hO : O r = some (.cells cs tt))
    (hl : cs.length = new.length) (hs : new.length = ti.sz) : OpStep C N o T O k .any [(r, .cells new tt)] := by
  refine OpStep.eff hte (vc := new.length = ti.sz) ?_ hd hs
  rw [hop]
  simp only [evalEff, hx, hy, ht, cellsA, hO, spliceA_full cs new hl]
end

end Go.Eng

/- The engine, part 32: strings out of bytes; make; look-ups by a function. -/
namespace Go.Eng
open Go.RowKit

def intOf : AV → Int
  | .int _ n => n
  | _ => 0
def boolOf : AV → Bool
  | .bool b => b
  | _ => false
def strOf : AV → List UInt8
  | .str s => s
  | _ => []
def isU8 : List AV → Bool
  | [.int .u8 _] => true
  | _ => false
def bytesA (m : Nat) (g : Nat → List AV) : List UInt8 := (List.range m).map fun i => UInt8.ofNat (intOf ((g i).headD .any)).toNat

theorem push_bytes : ∀ (l : List Int) (r : ByteArray), (l.foldl (fun r n => r.push (UInt8.ofNat n.toNat)) r).data.toList = r.data.toList ++ l.map fun n => UInt8.ofNat n.toNat
  | [], r => by simp
  | n :: l, r => by
    simp only [List.foldl_cons, List.map_cons]
    rw [push_bytes l]
    simp [ByteArray.push]

section
variable {C : Ctx} {N : Nat} {o : Oper} {T : Nat → Option AV} {O : Nat → Option AObj} {k : Nat} {te : TE}

theorem OpStep.bytesStr (hte : TE.ok C.P te) {src dst e : TypeId} {ts td tie : TI} {x : Operand} {u : AV} {m : Nat} {g : Nat → List AV} {vc : Prop} (hop : o.op = .convert src dst x) (hd : dstOK N o.dst = true) (hs : lk te src = some ts) (hsd : ts.desc = .slice e)
    (he : lk te e = some tie) (hed : tie.desc = .int .u8) (hdd : lk te dst = some td) (htd : td.desc = .string) (hx : evO T x = some u) (hu : srcA O 1 u = some (m, g, vc)) (hvc : vc) (hg : ∀ i, i < m → isU8 (g i) = true) :
    OpStep C N o T O k (.str (bytesA m g)) [] := by
  intro E T' O' bs a w K Q hT hOs hr hf hK
  have hxv := evO_sound hr.1 (evO_mono hT hx)
  obtain ⟨A, c, news, hv, hlen, hcell, h1, hgl, hV⟩ := srcA_sound hr.2 hxv (srcA_mono hOs hu) hvc
  rw [Nat.mul_one] at hlen
  have h1' : (P : Program) → P = C.P → P.underlying src = some (.slice e) := fun P hP => by rw [hP, ← hsd]; exact (hte src ts hs).1
  have hu1 := h1' C.P rfl
  have hu2 : C.P.underlying e = some (.int .u8) := by rw [← hed]; exact (hte e tie he).1
  have hu3 : C.P.underlying dst = some .string := by rw [← htd]; exact (hte dst td hdd).1
  -- the cells are bytes
  let ns : List Int := (List.range m).map fun i => intOf ((g i).headD .any)
  have hns : news = ns.map (Value.int .u8) := by
    refine List.ext_getElem? fun j => ?_
    rcases Nat.lt_or_ge j m with hj | hj
    · have hlt : j < news.length := by omega
      have hgj := hg j hj
      obtain ⟨n, hn⟩ : ∃ n, g j = [.int .u8 n] := by
        unfold isU8 at hgj
        split at hgj
        · rename_i n hh; exact ⟨n, hh⟩
        · cases hgj
      have := hV j hj 0 (.int .u8 n) (news[j]) (by omega) (by rw [hn]; rfl) (by simp [hlt])
      have hi := this.int_iff
      simp [hlt, hi, ns, hj, hn, intOf]
    · rw [List.getElem?_eq_none (by omega), List.getElem?_eq_none (by simp [ns]; omega)]
  have hrun : ∃ b : ByteArray, (convert src dst (a.eval x)).run C.P w = .ok (.string b) w ∧ b.data.toList = bytesA m g := by
    rw [hv, run_convert_bytes_string w src dst e A m c hu1 hu2 hu3]
    cases A with
    | none =>
      have hm0 : m = 0 := by
        rcases Nat.eq_zero_or_pos m with h | h
        · exact h
        · obtain ⟨ad, had, _⟩ := hcell h; cases had
      subst hm0
      exact ⟨.empty, by simp [Conv.bytesToString], by simp [bytesA]⟩
    | some ad =>
      have hl : (loadCells ad m).run C.P w = .ok (ns.map (Value.int .u8)).toArray w := by
        have := run_loadCells_list (P := C.P) w ad news (fun j v hj => by
          have hjm : j < m := by rw [← hlen]; exact (List.getElem?_eq_some_iff.1 hj).1
          obtain ⟨ad', had, hc⟩ := hcell (by omega)
          cases had
          exact hc j v hj)
        rw [hlen, hns] at this
        exact this
      refine ⟨_, run_bytesToString w ad m c ns hl, ?_⟩
      rw [push_bytes]
      have he0 : ByteArray.empty.data.toList = [] := rfl
      rw [he0]
      simp [ns, bytesA]
  obtain ⟨b, hb, hbl⟩ := hrun
  have : (execOp a.eval o).run C.P w = .ok (.value (.string b)) w := by simp [execOp, hop, hb]
  unfold Oper.wp
  rw [this]
  exact hK bs _ _ (fun _ _ => rfl) ⟨hr.1.putF hd (.str hbl), hr.2⟩

theorem OpStep.runeStr (hte : TE.ok C.P te) {src dst : TypeId} {ts td : TI} {x : Operand} {q q' : IntKind} {n : Int} (hop : o.op = .convert src dst x) (hd : dstOK N o.dst = true) (hs : lk te src = some ts) (hsd : ts.desc = .int q')
    (hdd : lk te dst = some td) (htd : td.desc = .string) (hx : evO T x = some (.int q n)) : OpStep C N o T O k (.str (Utf8.encode n).data.toList) [] := by
  intro E T' O' bs a w K Q hT hOs hr hf hK
  have hxv := (evO_sound hr.1 (evO_mono hT hx)).int_iff
  have hu1 := run_und hte (w := w) hs
  have hu3 := run_und hte (w := w) hdd
  rw [hsd] at hu1
  rw [htd] at hu3
  have hrun : (convert src dst (.int q n)).run C.P w = .ok (.string (Utf8.encode n)) w := by simp [convert, hu1, hu3, Conv.intToString]
  have : (execOp a.eval o).run C.P w = .ok (.value (.string (Utf8.encode n))) w := by simp [execOp, hop, hxv, hrun]
  unfold Oper.wp
  rw [this]
  exact hK bs _ _ (fun _ _ => rfl) ⟨hr.1.putF hd (.str rfl), hr.2⟩

theorem OpStep.make (hte : TE.ok C.P te) {t e : TypeId} {ti tie : TI} {lx cx : Operand} {kl kc : IntKind} {l c : Int} {zs : List AV} (hop : o.op = .makeSlice t lx cx) (hd : dstOK N o.dst = true) (ht : lk te t = some ti) (htd : ti.desc = .slice e)
    (he : lk te e = some tie) (hz : avcs tie.zero.cells.toList = some zs) (hzl : zs.length = tie.sz) (hl : evO T lx = some (.int kl l)) (hc : evO T cx = some (.int kc c)) (h0 : 0 ≤ l) (hlc : l ≤ c) (hb : (tie.bytes : Int) * c ≤ 281474976710656) (hm : c ≤ 9223372036854775807) :
    OpStep C N o T O k (.own k l.toNat) [(k, .row e tie.sz l.toNat (fun _ => zs) false)] := by
  intro E T' O' bs a w K Q hT hOs hr hf hK
  obtain ⟨f1, f2⟩ := hf k (Nat.le_refl _) (by omega)
  have hlv := (evO_sound hr.1 (evO_mono hT hl)).int_iff
  have hcv := (evO_sound hr.1 (evO_mono hT hc)).int_iff
  have hu1 : C.P.underlying t = some (.slice e) := by rw [← htd]; exact (hte t ti ht).1
  obtain ⟨i, hi, hisz, hib, hiz⟩ := (hte e tie he).2.1
  have hrun := run_make (P := C.P) w t e i tie.zero hu1 hi hiz kl kc l c h0 hlc (by rw [hib]; exact hb) hm
  have hz' := avcs_sound (w := w) (M := MB E O' bs) (bs := bs) _ _ hz
  have hzsz : tie.zero.cells.size = zs.length := by simpa using hz'.1
  have hcells : ∀ j, j < c.toNat * tie.sz → (madeCells tie.zero.cells (c.toNat * i.size))[j]? = tie.zero.cells[j % tie.sz]? := by
    intro j hj
    have hsz : 0 < tie.sz := by
      rcases Nat.eq_zero_or_pos tie.sz with h | h
      · rw [h] at hj; simp at hj
      · exact h
    have hmod : j % tie.sz < tie.zero.cells.size := by rw [hzsz, hzl]; exact Nat.mod_lt _ hsz
    have e : j % tie.zero.cells.size = j % tie.sz := by rw [hzsz, hzl]
    unfold madeCells
    rw [hisz, Array.getElem?_eq_getElem hmod]
    simp only [Array.getElem?_map, Array.getElem?_range, hj, if_true, Option.map_some, e]
    exact congrArg some (getElem!_pos tie.zero.cells (j % tie.sz) hmod)
  have hcsz : (madeCells tie.zero.cells (c.toNat * i.size)).size = c.toNat * tie.sz := by rw [size_madeCells, hisz]
  obtain ⟨hS, hW⟩ := new_row hr.2 f2 (w1 := w) rfl rfl rfl rfl (vs := madeCells tie.zero.cells (c.toNat * i.size)) (e := e) (sz := tie.sz) (n := l.toNat) (c := c.toNat) (f := fun _ => zs) (by omega) (by unfold maxLen; omega) hcsz (fun _ _ => hzl)
    (fun i' hi' j hj v hv => by
      have hlt : i' * tie.sz + j < c.toNat * tie.sz := by
        have : (i' + 1) * tie.sz ≤ c.toNat * tie.sz := Nat.mul_le_mul_right _ (by omega)
        rw [Nat.add_mul, Nat.one_mul] at this
        omega
      rw [hcells _ hlt] at hv
      exact hz'.2.1 _ v (by simpa using hv))
    (fun i' hi' j v u hj hv hu => by
      have hlt : i' * tie.sz + j < c.toNat * tie.sz := by
        have : (i' + 1) * tie.sz ≤ c.toNat * tie.sz := Nat.mul_le_mul_right _ (by omega)
        rw [Nat.add_mul, Nat.one_mul] at this
        omega
      rw [hcells _ hlt] at hv
      have e1 : (i' * tie.sz + j) % tie.sz = j := by rw [Nat.mul_comm, Nat.mul_add_mod, Nat.mod_eq_of_lt hj]
      rw [e1] at hv
      exact hz'.2.2 j v u (by simpa using hv) hu)
  have : (execOp a.eval o).run C.P w = .ok (.value (.slice (some ⟨w.heap.size, 0, none⟩) l.toNat c.toNat)) (w.alloc (.cells (madeCells tie.zero.cells (c.toNat * i.size)) e)) := by
    simp [execOp, hop, hlv, hcv, hrun]
  unfold Oper.wp
  rw [this]
  exact hK (up bs k (.blk w.heap.size c.toNat)) _ _ (fun r hr => up_other _ _ _ (by omega)) ⟨(hr.1.step hS).putF hd (.own (up_same _ _ _) (by omega) (by unfold maxLen; omega)), hW⟩
end

def keq : AV → AV → Bool
  | .str a, .str b => decide (a = b)
  | .int k a, .int k' b => decide (k = k') && decide (a = b)
  | _, _ => false

def mget : List (AV × AV) → AV → Option AV
  | [], _ => none
  | p :: l, k => match keq p.1 k with
    | true => some p.2
    | false => mget l k

def mset : List (AV × AV) → AV → AV → List (AV × AV)
  | [], k, v => [(k, v)]
  | p :: l, k, v => match keq p.1 k with
    | true => (k, v) :: l
    | false => p :: mset l k v

/-- The keys are of the key's type, each once. -/
def KeysOK (d : TypeDesc) (es : List (AV × AV)) : Prop := (es.all fun p => isK d p.1) = true ∧ (es.map Prod.fst).Nodup

theorem isK_cases {d : TypeDesc} {a : AV} (h : isK d a = true) : (d = .string ∧ ∃ s, a = .str s) ∨ ∃ k n, d = .int k ∧ a = .int k n := by
  unfold isK at h
  split at h
  · exact .inl ⟨rfl, _, rfl⟩
  · have := of_decide_eq_true h
    subst this
    exact .inr ⟨_, _, rfl, rfl⟩
  · cases h

theorem keq_iff {d : TypeDesc} {a b : AV} (ha : isK d a = true) (hb : isK d b = true) : keq a b = true ↔ a = b := by
  rcases isK_cases ha with ⟨rfl, s, rfl⟩ | ⟨k, n, rfl, rfl⟩
  · rcases isK_cases hb with ⟨_, s', rfl⟩ | ⟨k', n', h, rfl⟩
    · simp [keq]
    · cases h
  · rcases isK_cases hb with ⟨h, s', rfl⟩ | ⟨k', n', h, rfl⟩
    · cases h
    · cases h
      simp [keq]

theorem mget_holds {d : TypeDesc} {k : AV} (hk : isK d k = true) : ∀ {es : List (AV × AV)}, (es.all fun p => isK d p.1) = true → Holds es k (mget es k)
  | [], _ => by simp [mget, Holds]
  | p :: l, h => by
    simp only [List.all_cons, Bool.and_eq_true] at h
    simp only [mget]
    cases hb : keq p.1 k with
    | true =>
      have := (keq_iff h.1 hk).1 hb
      exact ⟨0, by simp [← this]⟩
    | false =>
      have ih := mget_holds hk h.2
      have hne : p.1 ≠ k := fun e => by rw [(keq_iff h.1 hk).2 e] at hb; cases hb
      show Holds (p :: l) k (mget l k)
      cases hm : mget l k with
      | none =>
        rw [hm] at ih
        intro q hq
        rcases List.mem_cons.1 hq with rfl | hq
        · exact hne
        · exact ih q hq
      | some v =>
        rw [hm] at ih
        obtain ⟨j, hj⟩ := ih
        exact ⟨j + 1, by simpa using hj⟩

theorem keys_uniq {es : List (AV × AV)} (h : (es.map Prod.fst).Nodup) {k : AV} {j j' : Nat} {v v' : AV} (h1 : es[j]? = some (k, v)) (h2 : es[j']? = some (k, v')) : j = j' := by
  have e1 : (es.map Prod.fst)[j]? = some k := by simp [h1]
  have e2 : (es.map Prod.fst)[j']? = some k := by simp [h2]
  exact (List.getElem?_inj (List.getElem?_eq_some_iff.1 e1).1 h).1 (e1.trans e2.symm)

theorem mset_at {d : TypeDesc} {k v : AV} (hk : isK d k = true) : ∀ {es : List (AV × AV)}, (es.all fun p => isK d p.1) = true → (es.map Prod.fst).Nodup → ∀ (j : Nat) (v' : AV), es[j]? = some (k, v') → mset es k v = es.set j (k, v)
  | [], _, _, j, v', h => by simp at h
  | p :: l, h, hn, j, v', hj => by
    simp only [List.all_cons, Bool.and_eq_true] at h
    simp only [mset]
    cases hb : keq p.1 k with
    | true =>
      have hp := (keq_iff h.1 hk).1 hb
      have : j = 0 := keys_uniq hn (k := k) (v := v') (v' := p.2) hj (by simp [← hp])
      subst this
      simp
    | false =>
      cases j with
      | zero =>
        simp at hj
        subst hj
        rw [(keq_iff (a := k) h.1 hk).2 rfl] at hb; cases hb
      | succ j =>
        simp only [List.map_cons, List.nodup_cons] at hn
        rw [mset_at hk h.2 hn.2 j v' (by simpa using hj)]
        simp

theorem mset_new {d : TypeDesc} {k v : AV} (hk : isK d k = true) : ∀ {es : List (AV × AV)}, (es.all fun p => isK d p.1) = true → (∀ p ∈ es, p.1 ≠ k) → mset es k v = es ++ [(k, v)]
  | [], _, _ => rfl
  | p :: l, h, hn => by
    simp only [List.all_cons, Bool.and_eq_true] at h
    simp only [mset]
    cases hb : keq p.1 k with
    | true => exact absurd ((keq_iff h.1 hk).1 hb) (hn p (by simp))
    | false =>
      rw [mset_new hk h.2 fun q hq => hn q (List.mem_cons_of_mem _ hq)]
      simp

/-- A value in the form of its type's zero. -/
def shapeA : AV → AV → AV
  | .bool _, x => .bool (boolOf x)
  | .int k _, x => .int k (intOf x)
  | .str _, x => .str (strOf x)
  | _, x => x

abbrev XOut := AV × List (Nat × AObj) × Prop

/-- Further operations: a condition, what comes if it holds, what comes if not. -/
def evalX (te : TE) (T : Nat → Option AV) (O : Nat → Option AObj) (k : Nat) (dst : Option Tmp) : Op → Option (Bool × XOut × XOut)
  | .lookup mt mx kx ok => match evO T mx, evO T kx, lk te mt with
    | some (.map r), some ku, some ti => match ti.desc with
      | .map kt et => match lk te kt, lk te et, O r with
        | some tk, some tie, some (.amap es) => match zeroV tie.zero, isK tk.desc ku with
          | some u0, true => some (true, ((match ok with
              | true => .tuple [shapeA u0 ((mget es ku).getD u0), .bool (mget es ku).isSome]
              | false => shapeA u0 ((mget es ku).getD u0)), [], KeysOK tk.desc es ∧ shapeA u0 ((mget es ku).getD u0) = (mget es ku).getD u0), (.any, [], True))
          | _, _ => none
        | _, _, _ => none
      | _ => none
    | _, _, _ => none
  | .mapUpdate mt mx kx vx => match evO T mx, evO T kx, evO T vx, lk te mt with
    | some (.map r), some ku, some vu, some ti => match ti.desc, dst with
      | .map kt _, none => match lk te kt, O r with
        | some tk, some (.amap es) => match isK tk.desc ku with
          | true => some (true, (.any, [(r, .amap (mset es ku vu))], KeysOK tk.desc es), (.any, [], True))
          | false => none
        | _, _ => none
      | _, _ => none
    | _, _, _, _ => none
  | .next x true => match evO T x with
    | some (.ptr r 0) => match O r with
      | some (.siter s pos) => some (decide (pos < s.length), (.tuple [.bool true, .int .i64 pos, .int .i32 (runeAt s pos).1], [(r, .siter s (pos + (runeAt s pos).2))], True), (.tuple [.bool false], [], True))
      | _ => none
    | _ => none
  | .convert src dst x => match lk te src, lk te dst, evO T x with
    | some ts, some td, some u => match ts.desc, td.desc with
      | .slice e, .string => match lk te e with
        | some tie => match tie.desc with
          | .int .u8 => match srcA O 1 u with
            | some (m, g, vc) => some (true, (.str (bytesA m g), [], vc ∧ ∀ i, i < m → isU8 (g i) = true), (.any, [], True))
            | none => none
          | _ => none
        | none => none
      | .int _, .string => match u with
        | .int _ n => some (true, (.str (Utf8.encode n).data.toList, [], True), (.any, [], True))
        | _ => none
      | _, _ => none
    | _, _, _ => none
  | .makeSlice t lx cx => match lk te t, evO T lx, evO T cx with
    | some ti, some (.int _ l), some (.int _ c) => match ti.desc with
      | .slice e => match lk te e with
        | some tie => match avcs tie.zero.cells.toList with
          | some zs => match Nat.beq zs.length tie.sz with
            | true => some (true, (.own k l.toNat, [(k, .row e tie.sz l.toNat (fun _ => zs) false)], 0 ≤ l ∧ l ≤ c ∧ (tie.bytes : Int) * c ≤ 281474976710656 ∧ c ≤ 9223372036854775807), (.any, [], True))
            | false => none
          | none => none
        | none => none
      | _ => none
    | _, _, _ => none
  | _ => none

section
variable {C : Ctx} {N : Nat} {o : Oper} {T T' : Nat → Option AV} {O O' : Nat → Option AObj} {k : Nat} {te : TE}

theorem evalX_mono (hT : Sub T T') (hO : Sub O O') {dst : Option Tmp} {op : Op} {r : Bool × XOut × XOut} (h : evalX te T O k dst op = some r) : evalX te T' O' k dst op = some r := by
  have e1 : ∀ {x u}, evO T x = some u → evO T' x = some u := fun h => evO_mono hT h
  have e4 : ∀ {r o}, O r = some o → O' r = some o := fun h => hO _ _ h
  have e5 : ∀ {sz u r}, srcA O sz u = some r → srcA O' sz u = some r := fun h => srcA_mono hO h
  unfold evalX at h ⊢
  split at h
  all_goals (try simp only [] at h ⊢)
  all_goals (repeat' (split at h))
  all_goals (try (cases h; done))
  all_goals (try (exact h))
  all_goals (try (grind; done))

theorem evalX_ok (hte : TE.ok C.P te) {b : Bool} {x1 x2 : XOut} (h : evalX te T O k o.dst o.op = some (b, x1, x2)) (hd : dstOK N o.dst = true) :
    (b = true → x1.2.2 → OpStep C N o T O k x1.1 x1.2.1) ∧ (b = false → x2.2.2 → OpStep C N o T O k x2.1 x2.2.1) := by
  unfold evalX at h
  split at h
  · rename_i mt mx kx ok hop
    split at h
    · rename_i r ku ti hm hk ht
      split at h
      · rename_i kt et htd
        split at h
        · rename_i tk tie es hkt het hO
          split at h
          · rename_i u0 hz hkK
            simp only [Option.some.injEq, Prod.mk.injEq] at h
            obtain ⟨rfl, rfl, rfl⟩ := h
            refine ⟨fun _ hv => ?_, fun h => (by cases h)⟩
            obtain ⟨⟨h1, h2⟩, h3⟩ := hv
            refine OpStep.lookup hte (mget es ku) hop hd hm hk ht htd hkt het hO hkK hz h1 ?_ (mget_holds hkK h1) (fun j j' v v' q1 q2 => ?_)
            · cases ok <;> simp [h3]
            · have := keys_uniq h2 q1 q2
              subst this
              rw [q1] at q2
              simpa using q2
          · cases h
        · cases h
      · cases h
    · cases h
  · rename_i mt mx kx vx hop
    split at h
    · rename_i r ku vu ti hm hk hv ht
      split at h
      · rename_i kt et htd hdst
        split at h
        · rename_i tk es hkt hO
          split at h
          · rename_i hkK
            simp only [Option.some.injEq, Prod.mk.injEq] at h
            obtain ⟨rfl, rfl, rfl⟩ := h
            refine ⟨fun _ hvc => ?_, fun h => (by cases h)⟩
            obtain ⟨h1, h2⟩ := hvc
            exact OpStep.mapUpdate hte hop hdst hm hk hv ht htd hkt hO hkK h1 ⟨fun j v hj => mset_at hkK h1 h2 j v hj, fun hn => mset_new hkK h1 hn⟩
          · cases h
        · cases h
      · cases h
    · cases h
  · rename_i x hop
    split at h
    · rename_i r hx
      split at h
      · rename_i s pos hO
        simp only [Option.some.injEq, Prod.mk.injEq] at h
        obtain ⟨rfl, rfl, rfl⟩ := h
        exact ⟨fun hb _ => OpStep.nextIn hop hd hx hO (of_decide_eq_true hb), fun hb _ => OpStep.nextOut hop hd hx hO (of_decide_eq_false hb)⟩
      · cases h
    · cases h
  · rename_i src dst x hop
    split at h
    · rename_i ts td u hs hdd hx
      split at h
      · rename_i e hsd htd
        split at h
        · rename_i tie he
          split at h
          · rename_i hed
            split at h
            · rename_i m g vc hu
              simp only [Option.some.injEq, Prod.mk.injEq] at h
              obtain ⟨rfl, rfl, rfl⟩ := h
              exact ⟨fun _ hv => OpStep.bytesStr hte hop hd hs hsd he hed hdd htd hx hu hv.1 hv.2, fun h => (by cases h)⟩
            · cases h
          · cases h
        · cases h
      · rename_i q hsd htd
        split at h
        · simp only [Option.some.injEq, Prod.mk.injEq] at h
          obtain ⟨rfl, rfl, rfl⟩ := h
          exact ⟨fun _ _ => OpStep.runeStr hte hop hd hs hsd hdd htd hx, fun h => (by cases h)⟩
        · cases h
      · cases h
    · cases h
  · rename_i t lx cx hop
    split at h
    · rename_i ti kl l kc c ht hl hc
      split at h
      · rename_i e htd
        split at h
        · rename_i tie he
          split at h
          · rename_i zs hz
            split at h
            · rename_i hzl
              simp only [Option.some.injEq, Prod.mk.injEq] at h
              obtain ⟨rfl, rfl, rfl⟩ := h
              exact ⟨fun _ hv => OpStep.make hte hop hd ht htd he hz (Nat.eq_of_beq_eq_true hzl) hl hc hv.1 hv.2.1 hv.2.2.1 hv.2.2.2, fun h => (by cases h)⟩
            · cases h
          · cases h
        · cases h
      · cases h
    · cases h
  · cases h
end

end Go.Eng

