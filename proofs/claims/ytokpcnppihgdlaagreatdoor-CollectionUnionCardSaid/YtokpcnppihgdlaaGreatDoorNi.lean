/- Lemmas that the tied card of CollectionUnion is proved by. -/
import Derived.Test.YtokpcnppihgdlaaGreatDoorNh
import Derived.Laws.BytesString
import Derived.Laws.MakeOwn
import Derived.Maps.RangeRun
/- The engine, part 32: strings out of bytes; make; look-ups by a function. -/
namespace Go.Eng
open Go.RowKit

def intOf : AV → Int
  | .int _ n => n
  | _ => 0
def boolOf : AV → Bool
  | .bool b => b
  | _ => false
def strOf : AV → List UInt8
  | .str s => s
  | _ => []
def isU8 : List AV → Bool
  | [.int .u8 _] => true
  | _ => false
def bytesA (m : Nat) (g : Nat → List AV) : List UInt8 := (List.range m).map fun i => UInt8.ofNat (intOf ((g i).headD .any)).toNat

theorem push_bytes : ∀ (l : List Int) (r : ByteArray), (l.foldl (fun r n => r.push (UInt8.ofNat n.toNat)) r).data.toList = r.data.toList ++ l.map fun n => UInt8.ofNat n.toNat
  | [], r => by simp
  | n :: l, r => by
    simp only [List.foldl_cons, List.map_cons]
    rw [push_bytes l]
    simp [ByteArray.push]

section
variable {C : Ctx} {N : Nat} {o : Oper} {T : Nat → Option AV} {O : Nat → Option AObj} {k : Nat} {te : TE}

theorem OpStep.bytesStr (hte : TE.ok C.P te) {src dst e : TypeId} {ts td tie : TI} {x : Operand} {u : AV} {m : Nat} {g : Nat → List AV} {vc : Prop} (hop : o.op = .convert src dst x) (hd : dstOK N o.dst = true) (hs : lk te src = some ts) (hsd : ts.desc = .slice e)
    (he : lk te e = some tie) (hed : tie.desc = .int .u8) (hdd : lk te dst = some td) (htd : td.desc = .string) (hx : evO T x = some u) (hu : srcA O 1 u = some (m, g, vc)) (hvc : vc) (hg : ∀ i, i < m → isU8 (g i) = true) :
    OpStep C N o T O k (.str (bytesA m g)) [] := by
  intro E T' O' bs a w K Q hT hOs hr hf hK
  have hxv := evO_sound hr.1 (evO_mono hT hx)
  obtain ⟨A, c, news, hv, hlen, hcell, h1, hgl, hV⟩ := srcA_sound hr.2 hxv (srcA_mono hOs hu) hvc
  rw [Nat.mul_one] at hlen
  have h1' : (P : Program) → P = C.P → P.underlying src = some (.slice e) := fun P hP => by rw [hP, ← hsd]; exact (hte src ts hs).1
  have hu1 := h1' C.P rfl
  have hu2 : C.P.underlying e = some (.int .u8) := by rw [← hed]; exact (hte e tie he).1
  have hu3 : C.P.underlying dst = some .string := by rw [← htd]; exact (hte dst td hdd).1
  -- the cells are bytes
  let ns : List Int := (List.range m).map fun i => intOf ((g i).headD .any)
  have hns : news = ns.map (Value.int .u8) := by
    refine List.ext_getElem? fun j => ?_
    rcases Nat.lt_or_ge j m with hj | hj
    · have hlt : j < news.length := by omega
      have hgj := hg j hj
      obtain ⟨n, hn⟩ : ∃ n, g j = [.int .u8 n] := by
        unfold isU8 at hgj
        split at hgj
        · rename_i n hh; exact ⟨n, hh⟩
        · cases hgj
      have := hV j hj 0 (.int .u8 n) (news[j]) (by omega) (by rw [hn]; rfl) (by simp [hlt])
      have hi := this.int_iff
      simp [hlt, hi, ns, hj, hn, intOf]
    · rw [List.getElem?_eq_none (by omega), List.getElem?_eq_none (by simp [ns]; omega)]
  have hrun : ∃ b : ByteArray, (convert src dst (a.eval x)).run C.P w = .ok (.string b) w ∧ b.data.toList = bytesA m g := by
    rw [hv, run_convert_bytes_string w src dst e A m c hu1 hu2 hu3]
    cases A with
    | none =>
      have hm0 : m = 0 := by
        rcases Nat.eq_zero_or_pos m with h | h
        · exact h
        · obtain ⟨ad, had, _⟩ := hcell h; cases had
      subst hm0
      exact ⟨.empty, by simp [Conv.bytesToString], by simp [bytesA]⟩
    | some ad =>
      have hl : (loadCells ad m).run C.P w = .ok (ns.map (Value.int .u8)).toArray w := by
        have := run_loadCells_list (P := C.P) w ad news (fun j v hj => by
          have hjm : j < m := by rw [← hlen]; exact (List.getElem?_eq_some_iff.1 hj).1
          obtain ⟨ad', had, hc⟩ := hcell (by omega)
          cases had
          exact hc j v hj)
        rw [hlen, hns] at this
        exact this
      refine ⟨_, run_bytesToString w ad m c ns hl, ?_⟩
      rw [push_bytes]
      have he0 : ByteArray.empty.data.toList = [] := rfl
      rw [he0]
      simp [ns, bytesA]
  obtain ⟨b, hb, hbl⟩ := hrun
  have : (execOp a.eval o).run C.P w = .ok (.value (.string b)) w := by simp [execOp, hop, hb]
  unfold Oper.wp
  rw [this]
  exact hK bs _ _ (fun _ _ => rfl) ⟨hr.1.putF hd (.str hbl), hr.2⟩

theorem OpStep.runeStr (hte : TE.ok C.P te) {src dst : TypeId} {ts td : TI} {x : Operand} {q q' : IntKind} {n : Int} (hop : o.op = .convert src dst x) (hd : dstOK N o.dst = true) (hs : lk te src = some ts) (hsd : ts.desc = .int q')
    (hdd : lk te dst = some td) (htd : td.desc = .string) (hx : evO T x = some (.int q n)) : OpStep C N o T O k (.str (Utf8.encode n).data.toList) [] := by
  intro E T' O' bs a w K Q hT hOs hr hf hK
  have hxv := (evO_sound hr.1 (evO_mono hT hx)).int_iff
  have hu1 := run_und hte (w := w) hs
  have hu3 := run_und hte (w := w) hdd
  rw [hsd] at hu1
  rw [htd] at hu3
  have hrun : (convert src dst (.int q n)).run C.P w = .ok (.string (Utf8.encode n)) w := by simp [convert, hu1, hu3, Conv.intToString]
  have : (execOp a.eval o).run C.P w = .ok (.value (.string (Utf8.encode n))) w := by simp [execOp, hop, hxv, hrun]
  unfold Oper.wp
  rw [this]
  exact hK bs _ _ (fun _ _ => rfl) ⟨hr.1.putF hd (.str rfl), hr.2⟩

theorem OpStep.make (hte : TE.ok C.P te) {t e : TypeId} {ti tie : TI} {lx cx : Operand} {kl kc : IntKind} {l c : Int} {zs : List AV} (hop : o.op = .makeSlice t lx cx) (hd : dstOK N o.dst = true) (ht : lk te t = some ti) (htd : ti.desc = .slice e)
    (he : lk te e = some tie) (hz : avcs tie.zero.cells.toList = some zs) (hzl : zs.length = tie.sz) (hl : evO T lx = some (.int kl l)) (hc : evO T cx = some (.int kc c)) (h0 : 0 ≤ l) (hlc : l ≤ c) (hb : (tie.bytes : Int) * c ≤ 281474976710656) (hm : c ≤ 9223372036854775807) :
    OpStep C N o T O k (.own k l.toNat) [(k, .row e tie.sz l.toNat (fun _ => zs) false)] := by
  intro E T' O' bs a w K Q hT hOs hr hf hK
  obtain ⟨f1, f2⟩ := hf k (Nat.le_refl _) (by omega)
  have hlv := (evO_sound hr.1 (evO_mono hT hl)).int_iff
  have hcv := (evO_sound hr.1 (evO_mono hT hc)).int_iff
  have hu1 : C.P.underlying t = some (.slice e) := by rw [← htd]; exact (hte t ti ht).1
  obtain ⟨i, hi, hisz, hib, hiz⟩ := (hte e tie he).2.1
  have hrun := run_make (P := C.P) w t e i tie.zero hu1 hi hiz kl kc l c h0 hlc (by rw [hib]; exact hb) hm
  have hz' := avcs_sound (w := w) (M := MB E O' bs) (bs := bs) _ _ hz
  have hzsz : tie.zero.cells.size = zs.length := by simpa using hz'.1
  have hcells : ∀ j, j < c.toNat * tie.sz → (madeCells tie.zero.cells (c.toNat * i.size))[j]? = tie.zero.cells[j % tie.sz]? := by
    intro j hj
    have hsz : 0 < tie.sz := by
      rcases Nat.eq_zero_or_pos tie.sz with h | h
      · rw [h] at hj; simp at hj
      · exact h
    have hmod : j % tie.sz < tie.zero.cells.size := by rw [hzsz, hzl]; exact Nat.mod_lt _ hsz
    have e : j % tie.zero.cells.size = j % tie.sz := by rw [hzsz, hzl]
    unfold madeCells
    rw [hisz, Array.getElem?_eq_getElem hmod]
    simp only [Array.getElem?_map, Array.getElem?_range, hj, if_true, Option.map_some, e]
    exact congrArg some (getElem!_pos tie.zero.cells (j % tie.sz) hmod)
  have hcsz : (madeCells tie.zero.cells (c.toNat * i.size)).size = c.toNat * tie.sz := by rw [size_madeCells, hisz]
  obtain ⟨hS, hW⟩ := new_row hr.2 f2 (w1 := w) rfl rfl ⟨rfl, fun _ => Nat.le_refl _⟩ rfl (vs := madeCells tie.zero.cells (c.toNat * i.size)) (e := e) (sz := tie.sz) (n := l.toNat) (c := c.toNat) (f := fun _ => zs) (by omega) (by unfold maxLen; omega) hcsz (fun _ _ => hzl)
    (fun i' hi' j hj v hv => by
      have hlt : i' * tie.sz + j < c.toNat * tie.sz := by
        have : (i' + 1) * tie.sz ≤ c.toNat * tie.sz := Nat.mul_le_mul_right _ (by omega)
        rw [Nat.add_mul, Nat.one_mul] at this
        omega
      rw [hcells _ hlt] at hv
      exact hz'.2.1 _ v (by simpa using hv))
    (fun i' hi' j v u hj hv hu => by
      have hlt : i' * tie.sz + j < c.toNat * tie.sz := by
        have : (i' + 1) * tie.sz ≤ c.toNat * tie.sz := Nat.mul_le_mul_right _ (by omega)
        rw [Nat.add_mul, Nat.one_mul] at this
        omega
      rw [hcells _ hlt] at hv
      have e1 : (i' * tie.sz + j) % tie.sz = j := by rw [Nat.mul_comm, Nat.mul_add_mod, Nat.mod_eq_of_lt hj]
      rw [e1] at hv
      exact hz'.2.2 j v u (by simpa using hv) hu)
  have : (execOp a.eval o).run C.P w = .ok (.value (.slice (some ⟨w.heap.size, 0, none⟩) l.toNat c.toNat)) (w.alloc (.cells (madeCells tie.zero.cells (c.toNat * i.size)) e)) := by
    simp [execOp, hop, hlv, hcv, hrun]
  unfold Oper.wp
  rw [this]
  exact hK (up bs k (.blk w.heap.size c.toNat)) _ _ (fun r hr => up_other _ _ _ (by omega)) ⟨(hr.1.step hS).putF hd (.own (up_same _ _ _) (by omega) (by unfold maxLen; omega)), hW⟩
end

def keq : AV → AV → Bool
  | .str a, .str b => decide (a = b)
  | .int k a, .int k' b => decide (k = k') && decide (a = b)
  | .agg a, .agg b => keqL a b
  | _, _ => false

def mget : List (AV × AV) → AV → Option AV
  | [], _ => none
  | p :: l, k => match keq p.1 k with
    | true => some p.2
    | false => mget l k

def mset : List (AV × AV) → AV → AV → List (AV × AV)
  | [], k, v => [(k, v)]
  | p :: l, k, v => match keq p.1 k with
    | true => (k, v) :: l
    | false => p :: mset l k v

/-- The keys are of the key's type, each once. -/
def KeysOK (d : TypeDesc) (es : List (AV × AV)) : Prop := (es.all fun p => isK d p.1) = true ∧ (es.map Prod.fst).Nodup

theorem isK_cases {d : TypeDesc} {a : AV} (h : isK d a = true) : (d = .string ∧ ∃ s, a = .str s) ∨ ∃ k n, d = .int k ∧ a = .int k n := by
  unfold isK at h
  split at h
  · exact .inl ⟨rfl, _, rfl⟩
  · have := of_decide_eq_true h
    subst this
    exact .inr ⟨_, _, rfl, rfl⟩
  · cases h

theorem keq_iff {d : TypeDesc} {a b : AV} (ha : isK d a = true) (hb : isK d b = true) : keq a b = true ↔ a = b := by
  rcases isK_cases ha with ⟨rfl, s, rfl⟩ | ⟨k, n, rfl, rfl⟩
  · rcases isK_cases hb with ⟨_, s', rfl⟩ | ⟨k', n', h, rfl⟩
    · simp [keq]
    · cases h
  · rcases isK_cases hb with ⟨h, s', rfl⟩ | ⟨k', n', h, rfl⟩
    · cases h
    · cases h
      simp [keq]

theorem mget_holds {K : AV → Bool} (hK : ∀ a b, K a = true → K b = true → (keq a b = true ↔ a = b)) {k : AV} (hk : K k = true) : ∀ {es : List (AV × AV)}, (es.all fun p => K p.1) = true → Holds es k (mget es k)
  | [], _ => by simp [mget, Holds]
  | p :: l, h => by
    simp only [List.all_cons, Bool.and_eq_true] at h
    simp only [mget]
    cases hb : keq p.1 k with
    | true =>
      have := (hK _ _ h.1 hk).1 hb
      exact ⟨0, by simp [← this]⟩
    | false =>
      have ih := mget_holds hK hk h.2
      have hne : p.1 ≠ k := fun e => by rw [(hK _ _ h.1 hk).2 e] at hb; cases hb
      show Holds (p :: l) k (mget l k)
      cases hm : mget l k with
      | none =>
        rw [hm] at ih
        intro q hq
        rcases List.mem_cons.1 hq with rfl | hq
        · exact hne
        · exact ih q hq
      | some v =>
        rw [hm] at ih
        obtain ⟨j, hj⟩ := ih
        exact ⟨j + 1, by simpa using hj⟩

theorem keys_uniq {es : List (AV × AV)} (h : (es.map Prod.fst).Nodup) {k : AV} {j j' : Nat} {v v' : AV} (h1 : es[j]? = some (k, v)) (h2 : es[j']? = some (k, v')) : j = j' := by
  have e1 : (es.map Prod.fst)[j]? = some k := by simp [h1]
  have e2 : (es.map Prod.fst)[j']? = some k := by simp [h2]
  exact (List.getElem?_inj (List.getElem?_eq_some_iff.1 e1).1 h).1 (e1.trans e2.symm)

theorem mset_at {K : AV → Bool} (hK : ∀ a b, K a = true → K b = true → (keq a b = true ↔ a = b)) {k v : AV} (hk : K k = true) : ∀ {es : List (AV × AV)}, (es.all fun p => K p.1) = true → (es.map Prod.fst).Nodup → ∀ (j : Nat) (v' : AV), es[j]? = some (k, v') → mset es k v = es.set j (k, v)
  | [], _, _, j, v', h => by simp at h
  | p :: l, h, hn, j, v', hj => by
    simp only [List.all_cons, Bool.and_eq_true] at h
    simp only [mset]
    cases hb : keq p.1 k with
    | true =>
      have hp := (hK _ _ h.1 hk).1 hb
      have : j = 0 := keys_uniq hn (k := k) (v := v') (v' := p.2) hj (by simp [← hp])
      subst this
      simp
    | false =>
      cases j with
      | zero =>
        simp at hj
        subst hj
        rw [(hK _ _ h.1 hk).2 rfl] at hb; cases hb
      | succ j =>
        simp only [List.map_cons, List.nodup_cons] at hn
        rw [mset_at hK hk h.2 hn.2 j v' (by simpa using hj)]
        simp

theorem mset_new {K : AV → Bool} (hK : ∀ a b, K a = true → K b = true → (keq a b = true ↔ a = b)) {k v : AV} (hk : K k = true) : ∀ {es : List (AV × AV)}, (es.all fun p => K p.1) = true → (∀ p ∈ es, p.1 ≠ k) → mset es k v = es ++ [(k, v)]
  | [], _, _ => rfl
  | p :: l, h, hn => by
    simp only [List.all_cons, Bool.and_eq_true] at h
    simp only [mset]
    cases hb : keq p.1 k with
    | true => exact absurd ((hK _ _ h.1 hk).1 hb) (hn p (by simp))
    | false =>
      rw [mset_new hK hk h.2 fun q hq => hn q (List.mem_cons_of_mem _ hq)]
      simp

theorem keqA_iff {te : TE} {kt : TypeId} (hn : ∀ t ti, lk te t = some ti → isAggD ti.desc = false → ti.sz = 1) : ∀ a b : AV, keyA te kt a = true → keyA te kt b = true → (keq a b = true ↔ a = b) := by
  intro a b ha hb
  cases a with
  | agg xs =>
    cases b with
    | agg ys =>
      obtain ⟨_, _, _, _, _, h1, h2, _⟩ := eqA_agg hn ha hb
      simp only [keq, keqL_iff h1 h2, AV.agg.injEq]
    | _ => simp [keyA] at hb
  | _ => simp [keyA] at ha
/-- The keys are structs of the key's type, each once. -/
def KeysA (te : TE) (kt : TypeId) (es : List (AV × AV)) : Prop := (es.all fun p => keyA te kt p.1) = true ∧ (es.map Prod.fst).Nodup

/-- A value in the form of its type's zero. -/
def shape0 : AV → AV → AV
  | .bool _, x => .bool (boolOf x)
  | .int k _, x => .int k (intOf x)
  | .str _, x => .str (strOf x)
  | _, x => x
def cellA (x : AV) (j : Nat) : AV := match x with
  | .agg cs => cs.getD j .any
  | _ => .any
def shapeL (x : AV) : Nat → List AV → List AV
  | _, [] => []
  | j, z :: zs => shape0 z (cellA x j) :: shapeL x (j + 1) zs
def shapeA : AV → AV → AV
  | .bool _, x => .bool (boolOf x)
  | .int k _, x => .int k (intOf x)
  | .str _, x => .str (strOf x)
  | .agg zs, x => .agg (shapeL x 0 zs)
  | _, x => x

abbrev XOut := AV × List (Nat × AObj) × Prop

/-- A map in which the key has an entry. -/
def ment (u0 : AV) : List (AV × AV) → AV → List (AV × AV)
  | [], k => [(k, u0)]
  | p :: l, k => match keq p.1 k with
    | true => p :: l
    | false => p :: ment u0 l k
def midx : List (AV × AV) → AV → Nat
  | [], _ => 0
  | p :: l, k => match keq p.1 k with
    | true => 0
    | false => midx l k + 1
theorem ment_at {K : AV → Bool} (hK : ∀ a b, K a = true → K b = true → (keq a b = true ↔ a = b)) {k u0 : AV} (hk : K k = true) : ∀ {es : List (AV × AV)}, (es.all fun p => K p.1) = true → (es.map Prod.fst).Nodup → ∀ (j : Nat) (v : AV), es[j]? = some (k, v) → ment u0 es k = es ∧ midx es k = j ∧ (mget es k).getD u0 = v
  | [], _, _, j, v, h => by simp at h
  | p :: l, ha, hn, j, v, h => by
    simp only [List.all_cons, Bool.and_eq_true] at ha
    obtain ⟨hn1, hn2⟩ := List.nodup_cons.1 (show (p.1 :: l.map Prod.fst).Nodup from hn)
    unfold ment midx mget
    cases j with
    | zero =>
      simp only [List.getElem?_cons_zero, Option.some.injEq] at h
      subst h
      rw [(hK k k hk hk).2 rfl]
      exact ⟨rfl, rfl, rfl⟩
    | succ j =>
      simp only [List.getElem?_cons_succ] at h
      obtain ⟨i1, i2, i3⟩ := ment_at hK (u0 := u0) hk ha.2 hn2 j v h
      have hne : keq p.1 k = false := by
        cases q : keq p.1 k with
        | false => rfl
        | true =>
          have e := (hK p.1 k ha.1 hk).1 q
          exact absurd (List.mem_map.2 ⟨_, List.mem_of_getElem? h, rfl⟩) (by rw [← e]; exact hn1)
      rw [hne]
      exact ⟨by show p :: ment u0 l k = _; rw [i1], by show midx l k + 1 = _; rw [i2], i3⟩
theorem ment_new {K : AV → Bool} (hK : ∀ a b, K a = true → K b = true → (keq a b = true ↔ a = b)) {k u0 : AV} (hk : K k = true) : ∀ {es : List (AV × AV)}, (es.all fun p => K p.1) = true → (∀ p ∈ es, p.1 ≠ k) → ment u0 es k = es ++ [(k, u0)] ∧ midx es k = es.length ∧ (mget es k).getD u0 = u0
  | [], _, _ => ⟨rfl, rfl, rfl⟩
  | p :: l, ha, hn => by
    simp only [List.all_cons, Bool.and_eq_true] at ha
    obtain ⟨i1, i2, i3⟩ := ment_new hK (u0 := u0) hk ha.2 fun q hq => hn q (List.mem_cons_of_mem _ hq)
    have hne : keq p.1 k = false := by
      cases q : keq p.1 k with
      | false => rfl
      | true => exact absurd ((hK p.1 k ha.1 hk).1 q) (hn p (List.mem_cons_self ..))
    unfold ment midx mget
    rw [hne]
    exact ⟨by show p :: ment u0 l k = _; rw [i1]; rfl, by show midx l k + 1 = _; rw [i2]; rfl, i3⟩

/-- Further operations: a condition, what comes if it holds, what comes if not. -/
def evalX (te : TE) (T : Nat → Option AV) (O : Nat → Option AObj) (k : Nat) (dst : Option Tmp) : Op → Option (Bool × XOut × XOut)
  | .lookup mt mx kx ok => match evO T mx, evO T kx, lk te mt with
    | some (.map r), some ku, some ti => match ti.desc with
      | .map kt et => match lk te kt, lk te et, O r with
        | some tk, some tie, some (.amap es) => match zeroV tie.zero, isK tk.desc ku with
          | some u0, true => some (true, ((match ok with
              | true => .tuple [shapeA u0 ((mget es ku).getD u0), .bool (mget es ku).isSome]
              | false => shapeA u0 ((mget es ku).getD u0)), [], KeysOK tk.desc es ∧ shapeA u0 ((mget es ku).getD u0) = (mget es ku).getD u0), (.any, [], True))
          | some u0, false => match keyA te kt ku with
            | true => some (true, ((match ok with
              | true => .tuple [shapeA u0 ((mget es ku).getD u0), .bool (mget es ku).isSome]
              | false => shapeA u0 ((mget es ku).getD u0)), [], KeysA te kt es ∧ shapeA u0 ((mget es ku).getD u0) = (mget es ku).getD u0), (.any, [], True))
            | false => none
          | _, _ => none
        | _, _, _ => none
      | _ => none
    | _, _, _ => none
  | .mapUpdate mt mx kx vx => match evO T mx, evO T kx, evO T vx, lk te mt with
    | some (.map r), some ku, some vu, some ti => match ti.desc, dst with
      | .map kt _, none => match lk te kt, O r with
        | some tk, some (.amap es) => match isK tk.desc ku with
          | true => some (true, (.any, [(r, .amap (mset es ku vu))], KeysOK tk.desc es), (.any, [], True))
          | false => match keyA te kt ku with
            | true => some (true, (.any, [(r, .amap (mset es ku vu))], KeysA te kt es), (.any, [], True))
            | false => none
        | _, _ => none
      | _, _ => none
    | _, _, _, _ => none
  | .next x true => match evO T x with
    | some (.ptr r 0) => match O r with
      | some (.siter s pos) => some (decide (pos < s.length), (.tuple [.bool true, .int .i64 pos, .int .i32 (runeAt s pos).1], [(r, .siter s (pos + (runeAt s pos).2))], True), (.tuple [.bool false], [], True))
      | _ => none
    | _ => none
  | .convert src dst x => match lk te src, lk te dst, evO T x with
    | some ts, some td, some u => match ts.desc, td.desc with
      | .slice e, .string => match lk te e with
        | some tie => match tie.desc with
          | .int .u8 => match srcA O 1 u with
            | some (m, g, vc) => some (true, (.str (bytesA m g), [], vc ∧ ∀ i, i < m → isU8 (g i) = true), (.any, [], True))
            | none => none
          | _ => none
        | none => none
      | .int _, .string => match u with
        | .int _ n => some (true, (.str (Utf8.encode n).data.toList, [], True), (.any, [], True))
        | _ => none
      | _, _ => none
    | _, _, _ => none
  | .makeSlice t lx cx => match lk te t, evO T lx, evO T cx with
    | some ti, some (.int _ l), some (.int _ c) => match ti.desc with
      | .slice e => match lk te e with
        | some tie => match avcs tie.zero.cells.toList with
          | some zs => match Nat.beq zs.length tie.sz with
            | true => some (true, (.own k l.toNat, [(k, .row e tie.sz l.toNat (fun _ => zs) false)], 0 ≤ l ∧ l ≤ c ∧ (tie.bytes : Int) * c ≤ 281474976710656 ∧ c ≤ 9223372036854775807), (.any, [], True))
            | false => none
          | none => none
        | none => none
      | _ => none
    | _, _, _ => none
  | .mapEntry mt mx kx => match evO T mx, evO T kx, lk te mt with
    | some (.map r), some ku, some ti => match ti.desc with
      | .map kt et => match lk te kt, lk te et, O r with
        | some _, some tie, some (.amap es) => match zeroV tie.zero, keyA te kt ku with
          | some u0, true => some (true, (.tuple [shapeA u0 ((mget es ku).getD u0), .int .i64 (midx es ku)], [(r, .amap (ment u0 es ku))], KeysA te kt es ∧ shapeA u0 ((mget es ku).getD u0) = (mget es ku).getD u0), (.any, [], True))
          | _, _ => none
        | _, _, _ => none
      | _ => none
    | _, _, _ => none
  | .entryStore _ mx sx vx => match dst, evO T mx, evO T sx, evO T vx with
    | none, some (.map r), some (.int _ s), some vu => match O r with
      | some (.amap es) => some (true, (.any, [(r, .amap (es.set s.toNat ((es.getD s.toNat (.any, .any)).1, vu)))], 0 ≤ s ∧ s < es.length), (.any, [], True))
      | _ => none
    | _, _, _, _ => none
  | .call { callee := .builtin .clear, args, argTypes } => match args.toList, argTypes.toList with
    | [x], [t] => match evO T x, lk te t with
      | some (.sub r sz off n), some ti => match ti.desc with
        | .slice e => match lk te e, O r with
          | some tie, some (.row e' sz' n0 f false) => match avcs tie.zero.cells.toList with
            | some zs => match Nat.beq zs.length sz, Nat.beq sz' sz with
              | true, true => some (true, (.tuple [], [(r, .row e' sz' off f false)], off ≤ n0), (.any, [], True))
              | _, _ => none
            | none => none
          | _, _ => none
        | _ => none
      | _, _ => none
    | _, _ => none
  | _ => none

section
variable {C : Ctx} {N : Nat} {o : Oper} {T T' : Nat → Option AV} {O O' : Nat → Option AObj} {k : Nat} {te : TE}

theorem evalX_mono (hT : Sub T T') (hO : Sub O O') {dst : Option Tmp} {op : Op} {r : Bool × XOut × XOut} (h : evalX te T O k dst op = some r) : evalX te T' O' k dst op = some r := by
  have e1 : ∀ {x u}, evO T x = some u → evO T' x = some u := fun h => evO_mono hT h
  have e4 : ∀ {r o}, O r = some o → O' r = some o := fun h => hO _ _ h
  have e5 : ∀ {sz u r}, srcA O sz u = some r → srcA O' sz u = some r := fun h => srcA_mono hO h
  unfold evalX at h ⊢
  split at h
  all_goals (try simp only [] at h ⊢)
  all_goals (repeat' (split at h))
  all_goals (try (cases h; done))
  all_goals (try (exact h))
  all_goals (try (grind; done))

theorem evalX_ok (hte : TE.ok C.P te) (hn : ∀ t ti, lk te t = some ti → isAggD ti.desc = false → ti.sz = 1) {b : Bool} {x1 x2 : XOut} (h : evalX te T O k o.dst o.op = some (b, x1, x2)) (hd : dstOK N o.dst = true) :
    (b = true → x1.2.2 → OpStep C N o T O k x1.1 x1.2.1) ∧ (b = false → x2.2.2 → OpStep C N o T O k x2.1 x2.2.1) := by
  unfold evalX at h
  split at h
  · rename_i mt mx kx ok hop
    split at h
    · rename_i r ku ti hm hk ht
      split at h
      · rename_i kt et htd
        split at h
        · rename_i tk tie es hkt het hO
          split at h
          · rename_i u0 hz hkK
            simp only [Option.some.injEq, Prod.mk.injEq] at h
            obtain ⟨rfl, rfl, rfl⟩ := h
            refine ⟨fun _ hv => ?_, fun h => (by cases h)⟩
            obtain ⟨⟨h1, h2⟩, h3⟩ := hv
            refine OpStep.lookup hte (mget es ku) hop hd hm hk ht htd hkt het hO hkK hz h1 ?_ (mget_holds (fun _ _ a b => keq_iff a b) hkK h1) (fun j j' v v' q1 q2 => ?_)
            · cases ok <;> simp [h3]
            · have := keys_uniq h2 q1 q2
              subst this
              rw [q1] at q2
              simpa using q2
          · rename_i u0 hz hkK0
            split at h
            · rename_i hkK
              simp only [Option.some.injEq, Prod.mk.injEq] at h
              obtain ⟨rfl, rfl, rfl⟩ := h
              refine ⟨fun _ hv => ?_, fun h => (by cases h)⟩
              obtain ⟨⟨h1, h2⟩, h3⟩ := hv
              refine OpStep.lookupA (tk := tk) hte hn (mget es ku) hop hd hm hk ht htd het hO hkK hz h1 ?_ (mget_holds (keqA_iff hn) hkK h1) (fun j j' v v' q1 q2 => ?_)
              · cases ok <;> simp [h3]
              · have := keys_uniq h2 q1 q2
                subst this
                rw [q1] at q2
                simpa using q2
            · cases h
          · cases h
        · cases h
      · cases h
    · cases h
  · rename_i mt mx kx vx hop
    split at h
    · rename_i r ku vu ti hm hk hv ht
      split at h
      · rename_i kt et htd hdst
        split at h
        · rename_i tk es hkt hO
          split at h
          · rename_i hkK
            simp only [Option.some.injEq, Prod.mk.injEq] at h
            obtain ⟨rfl, rfl, rfl⟩ := h
            refine ⟨fun _ hvc => ?_, fun h => (by cases h)⟩
            obtain ⟨h1, h2⟩ := hvc
            exact OpStep.mapUpdate hte hop hdst hm hk hv ht htd hkt hO hkK h1 ⟨fun j v hj => mset_at (fun _ _ a b => keq_iff a b) hkK h1 h2 j v hj, fun hn => mset_new (fun _ _ a b => keq_iff a b) hkK h1 hn⟩
          · split at h
            · rename_i hkK
              simp only [Option.some.injEq, Prod.mk.injEq] at h
              obtain ⟨rfl, rfl, rfl⟩ := h
              refine ⟨fun _ hvc => ?_, fun h => (by cases h)⟩
              obtain ⟨h1, h2⟩ := hvc
              exact OpStep.mapUpdateA hte hn hop hdst hm hk hv ht htd hkt hO hkK h1 ⟨fun j v hj => mset_at (keqA_iff hn) hkK h1 h2 j v hj, fun hne => mset_new (keqA_iff hn) hkK h1 hne⟩
            · cases h
        · cases h
      · cases h
    · cases h
  · rename_i x hop
    split at h
    · rename_i r hx
      split at h
      · rename_i s pos hO
        simp only [Option.some.injEq, Prod.mk.injEq] at h
        obtain ⟨rfl, rfl, rfl⟩ := h
        exact ⟨fun hb _ => OpStep.nextIn hop hd hx hO (of_decide_eq_true hb), fun hb _ => OpStep.nextOut hop hd hx hO (of_decide_eq_false hb)⟩
      · cases h
    · cases h
  · rename_i src dst x hop
    split at h
    · rename_i ts td u hs hdd hx
      split at h
      · rename_i e hsd htd
        split at h
        · rename_i tie he
          split at h
          · rename_i hed
            split at h
            · rename_i m g vc hu
              simp only [Option.some.injEq, Prod.mk.injEq] at h
              obtain ⟨rfl, rfl, rfl⟩ := h
              exact ⟨fun _ hv => OpStep.bytesStr hte hop hd hs hsd he hed hdd htd hx hu hv.1 hv.2, fun h => (by cases h)⟩
            · cases h
          · cases h
        · cases h
      · rename_i q hsd htd
        split at h
        · simp only [Option.some.injEq, Prod.mk.injEq] at h
          obtain ⟨rfl, rfl, rfl⟩ := h
          exact ⟨fun _ _ => OpStep.runeStr hte hop hd hs hsd hdd htd hx, fun h => (by cases h)⟩
        · cases h
      · cases h
    · cases h
  · rename_i t lx cx hop
    split at h
    · rename_i ti kl l kc c ht hl hc
      split at h
      · rename_i e htd
        split at h
        · rename_i tie he
          split at h
          · rename_i zs hz
            split at h
            · rename_i hzl
              simp only [Option.some.injEq, Prod.mk.injEq] at h
              obtain ⟨rfl, rfl, rfl⟩ := h
              exact ⟨fun _ hv => OpStep.make hte hop hd ht htd he hz (Nat.eq_of_beq_eq_true hzl) hl hc hv.1 hv.2.1 hv.2.2.1 hv.2.2.2, fun h => (by cases h)⟩
            · cases h
          · cases h
        · cases h
      · cases h
    · cases h
  · rename_i mt mx kx hop
    split at h
    · rename_i r ku ti hm hk ht
      split at h
      · rename_i kt et htd
        split at h
        · rename_i tk tie es hkt het hO
          split at h
          · rename_i u0 hz hkK
            simp only [Option.some.injEq, Prod.mk.injEq] at h
            obtain ⟨rfl, rfl, rfl⟩ := h
            refine ⟨fun _ hv => ?_, fun h => (by cases h)⟩
            obtain ⟨⟨h1, h2⟩, h3⟩ := hv
            dsimp only
            rw [h3]
            exact OpStep.mapEntryA hte hn hop hd hm hk ht htd hkt het hO hkK hz h1 ⟨fun j v hj => ment_at (keqA_iff hn) hkK h1 h2 j v hj, fun hne => ment_new (keqA_iff hn) hkK h1 hne⟩
          · cases h
        · cases h
      · cases h
    · cases h
  · rename_i mt mx sx vx hop
    split at h
    · rename_i r kk s vu hdst hm hs hv
      split at h
      · rename_i es hO
        simp only [Option.some.injEq, Prod.mk.injEq] at h
        obtain ⟨rfl, rfl, rfl⟩ := h
        exact ⟨fun _ hvc => OpStep.entryStore hop hdst hm hs hv hO hvc.1 hvc.2, fun h => (by cases h)⟩
      · cases h
    · cases h
  · rename_i args argTypes hop
    split at h
    · rename_i x t hargs htys
      split at h
      · rename_i r sz off n ti hx ht
        split at h
        · rename_i e htd
          split at h
          · rename_i tie e' sz' n0 f he hO
            split at h
            · rename_i zs hz
              split at h
              · rename_i hzl hsz
                simp only [Option.some.injEq, Prod.mk.injEq] at h
                obtain ⟨rfl, rfl, rfl⟩ := h
                obtain rfl := Nat.eq_of_beq_eq_true hsz
                exact ⟨fun _ hv => OpStep.clear hte hop hd hargs htys hx ht htd he hO hz (Nat.eq_of_beq_eq_true hzl) hv, fun h => (by cases h)⟩
              · cases h
            · cases h
          · cases h
        · cases h
      · cases h
    · cases h
  · cases h
end

end Go.Eng
/- The engine, part 35: the next entry of a map, whichever it is. -/
namespace Go.Eng
open Go.ChangeMaps (setBlock)

theorem AOps.nextMap {C : Ctx} {m N : Nat} {ops : Array Oper} {rest : List Oper} {Q : Exit → St → Prop} {o : Oper} {T : List (Nat × AV)} {O : List (Nat × AObj)} {nx : Nat} {dec : List Nat} {x : Operand} {r mm n0 ty c0 : Nat} {left : List Nat} {es : List (AV × AV)}
    (hg : o.guard = none) (hop : o.op = .next x false) (hd : dstOK N o.dst = true) (hx : evO (lk T) x = some (.ptr r 0)) (hO : lk O r = some (.miter mm n0 (ty :: c0 :: left))) (hM : lk O mm = some (.amap es)) (hn : n0 = es.length)
    (h0 : left = [] → AOps C m N ops rest Q ⟨putT o.dst (.tuple [.bool false]) T, O, nx, dec⟩)
    (hs : ∀ i, i ∈ left → AOps C m N ops rest Q ⟨putT o.dst (.tuple [.bool true, .any, .any]) T, (r, .miter mm n0 (ty :: i :: left.erase i)) :: O, nx, dec⟩) : AOps C m N ops (o :: rest) Q ⟨T, O, nx, dec⟩ := by
  intro E hE bs a w hr
  refine wpList_plain hg fun K hK => ?_
  obtain ⟨⟨hF, hW⟩, hnx, hm⟩ := hr
  obtain ⟨b, c, bm, cm, seen, h1, h2, h3, nd, hlt, hiff, _⟩ := hW.obj r _ hO
  simp only [List.drop_succ_cons, List.drop_zero] at nd hlt hiff
  obtain ⟨bm', cm', ents, clock, g1, g2, hent, hborn⟩ := hW.obj mm _ hM
  rw [h2] at g1
  injection g1 with g1
  injection g1 with e1 e2
  subst e1; subst e2
  have hsz : ents.size = n0 := by rw [hent.1, hn]
  have hev := evO_sound hF hx
  generalize hmx : a.eval x = mv at hev
  have hmv : mv = .pointer (some ⟨b, 0, none⟩) := by
    cases hev with
    | ptr hb =>
      rw [h1] at hb
      injection hb with hb
      injection hb with e1 e2
      subst e1
      rfl
  subst hmv
  have hold : ∀ y ∈ ents.toList, y.born < n0 := by
    intro y hy
    obtain ⟨j, hj⟩ := List.getElem?_of_mem hy
    have hj' : ents[j]? = some y := by simpa using hj
    rw [hborn.2 j y hj', ← hsz]
    exact (Array.getElem?_eq_some_iff.1 hj').1
  rcases run_next_at (P := C.P) w o.type b bm n0 n0 seen ents clock h3 g2 hold (Nat.le_refl _) with ⟨z1, z2⟩ | ⟨e, z1, w1, z2, z3⟩
  · have hl : left = [] := by
      cases hleft : left with
      | nil => rfl
      | cons i l =>
        have hi : i ∈ left := by rw [hleft]; exact List.mem_cons_self ..
        have hin := hlt i hi
        have hin' : i < ents.size := by omega
        have hc := (hiff i hin).1 hi
        have hm : ents[i] ∈ leftOf ents seen := by
          unfold leftOf
          rw [Array.mem_filter]
          refine ⟨by simp, ?_⟩
          rw [hborn.2 i _ (Array.getElem?_eq_getElem hin')]
          simpa using hc
        have : leftOf ents seen = #[] := Array.eq_empty_of_size_eq_zero z1
        rw [this] at hm
        simp at hm
    have run : (execOp a.eval o).run C.P w = .ok (.value (.tuple #[.bool false])) w := by simp [execOp, hop, hmx, z2]
    unfold Oper.wp
    rw [run]
    refine hK _ _ (h0 hl E hE bs _ _ ⟨⟨hF.putT hd (.tuple rfl fun j v u hv hu => ?_), hW⟩, hnx, hm⟩)
    match j with
    | 0 => simp at hv hu; subst hv; subst hu; exact .bool
    | j + 1 => simp at hv
  · unfold leftOf at z1
    have hz := Array.mem_filter.1 (Array.mem_toList_iff.1 z1)
    obtain ⟨i, hi⟩ := Array.getElem?_of_mem hz.1
    have hbi := hborn.2 i e hi
    have hin : i < ents.size := (Array.getElem?_eq_some_iff.1 hi).1
    have hil : i ∈ left := (hiff i (by omega)).2 (by have := hz.2; rw [hbi] at this; simpa using this)
    have run : (execOp a.eval o).run C.P w = .ok (.value (.tuple #[.bool true, e.key, e.val])) (setBlock w1 b (.mapIter (some bm) n0 (seen.push e.born) clock)) := by simp [execOp, hop, hmx, z3]
    have hblt : b < w.heap.size := (Array.getElem?_eq_some_iff.1 h3).1
    have hclk : clock = n0 := by rw [hborn.1, hsz]
    obtain ⟨hS, hW'⟩ := hW.modify (x := r) (o := .miter mm n0 (ty :: i :: left.erase i)) hO rfl h1 (w' := setBlock w1 b (.mapIter (some bm) n0 (seen.push e.born) clock))
      (fun b' hb' => by
        rcases z2 with rfl | rfl
        · simp [setBlock, Ne.symm hb']
        · show (w.heap.setIfInBounds b _)[b']? = _
          simp [Ne.symm hb'])
      (by rcases z2 with rfl | rfl
          · simp [setBlock]
          · show (w.heap.setIfInBounds b _).size = _
            simp)
      (by rcases z2 with rfl | rfl <;> rfl) (by rcases z2 with rfl | rfl <;> exact ⟨rfl, fun _ => by first | exact Nat.le_refl _ | exact Nat.le_succ _⟩) (by rcases z2 with rfl | rfl <;> rfl) rfl
      (fun hS => ⟨b, c, bm, cm, seen.push e.born, h1, h2, by
          rcases z2 with rfl | rfl
          · simp [setBlock, hblt, hclk]
          · show (w.heap.setIfInBounds b _)[b]? = _
            simp [hblt, hclk],
        nd.erase i, fun j hj => hlt j (List.mem_of_mem_erase hj), fun j hj => by
          show j ∈ left.erase i ↔ (seen.push e.born).contains j = false
          rw [nd.mem_erase_iff, hiff j hj, hbi, Array.contains_push]
          by_cases hji : j = i
          · subst hji; simp
          · simp [hji], fun j hj hjn => by
          simp only [List.getElem?_cons_succ, List.getElem?_cons_zero, Option.some.injEq] at hj
          subst hj
          rw [hbi]; simp⟩)
    unfold Oper.wp
    rw [run]
    refine hK _ _ (hs i hil E hE bs _ _ ⟨⟨?_, ?_⟩, fun r' hr' => ⟨?_, (hnx r' hr').2⟩, hm⟩)
    · show FRep _ (MB E (lk ((r, .miter mm n0 (ty :: i :: left.erase i)) :: O)) bs) bs N (lk (putT o.dst _ T)) _
      rw [lk_up]
      refine (hF.step hS).putT hd (.tuple rfl fun j v u hv hu => ?_)
      match j with
      | 0 => simp at hv hu; subst hv; subst hu; exact .bool
      | 1 => simp at hv hu; subst hv; subst hu; exact .any
      | 2 => simp at hv hu; subst hv; subst hu; exact .any
      | j + 3 => simp at hv
    · show WRep C E (lk ((r, .miter mm n0 (ty :: i :: left.erase i)) :: O)) bs _
      rw [lk_up]; exact hW'
    · show lk ((r, .miter mm n0 (ty :: i :: left.erase i)) :: O) r' = none
      rw [lk_cons]
      have hne : ¬ r = r' := fun e => by subst e; have := (hnx r hr').1; rw [hO] at this; cases this
      simp only [hne, if_false]
      exact (hnx r' hr').1

/-- The entry that the last step handed out. -/
theorem OpStep.entry {C : Ctx} {N : Nat} {o : Oper} {T : Nat → Option AV} {O : Nat → Option AObj} {k : Nat} {x : Operand} {r mm n0 ty c0 : Nat} {left : List Nat} {es : List (AV × AV)} {ku vu : AV}
    (hop : o.op = .entry x) (hd : dstOK N o.dst = true) (hx : evO T x = some (.ptr r 0)) (hO : O r = some (.miter mm n0 (ty :: c0 :: left))) (hM : O mm = some (.amap es)) (hn : n0 = es.length) (hc : es[c0]? = some (ku, vu)) :
    OpStep C N o T O k (.tuple [ku, vu]) [] := by
  intro E T' O' bs a w K Q hT hOs hr hf hK
  obtain ⟨b, c, bm, cm, seen, h1, h2, h3, nd, hlt, hiff, hcur⟩ := hr.2.obj r _ (hOs _ _ hO)
  obtain ⟨bm', cm', ents, clock, g1, g2, hent, hborn⟩ := hr.2.obj mm _ (hOs _ _ hM)
  rw [h2] at g1
  injection g1 with g1
  injection g1 with e1 e2
  subst e1; subst e2
  have hlt0 : c0 < es.length := (List.getElem?_eq_some_iff.1 hc).1
  have hsz : ents.size = n0 := by rw [hent.1, hn]
  have hclk : clock = n0 := by rw [hborn.1, hsz]
  have hback := hcur c0 (by simp) (by omega)
  have hin : c0 < ents.size := by omega
  have hei : ents[c0]? = some ents[c0] := Array.getElem?_eq_getElem hin
  have hev := evO_sound hr.1 (evO_mono hT hx)
  generalize hmx : a.eval x = mv at hev
  have hmv : mv = .pointer (some ⟨b, 0, none⟩) := by
    cases hev with
    | ptr hb =>
      rw [h1] at hb
      injection hb with hb
      injection hb with e1 e2
      subst e1
      rfl
  subst hmv
  have hfind : ents.find? (fun y => y.born == c0) = some ents[c0] := by
    rw [Array.find?_eq_some_iff_getElem]
    refine ⟨by rw [hborn.2 c0 _ hei]; simp, c0, hin, rfl, fun j hj => ?_⟩
    have := hborn.2 j _ (Array.getElem?_eq_getElem (by omega : j < ents.size))
    simp [this]
    omega
  have hv : (Instr.entry (.pointer (some ⟨b, 0, none⟩))).run C.P w = .ok (.tuple #[ents[c0].key, ents[c0].val]) w := by
    simp only [Instr.entry, getObj, Sem.run_bind, Sem.run, h3, g2, Result.andThen, hback, hclk, bne_self_eq_false, Bool.false_eq_true, if_false, hfind]
    rfl
  obtain ⟨V1, V2⟩ := hent.2 c0 _ _ hei hc
  have : (execOp a.eval o).run C.P w = .ok (.value (.tuple #[ents[c0].key, ents[c0].val])) w := by simp [execOp, hop, hmx, hv]
  unfold Oper.wp
  rw [this]
  refine hK bs _ _ (fun _ _ => rfl) ⟨hr.1.putF hd (.tuple rfl fun j v u hv hu => ?_), hr.2⟩
  match j with
  | 0 => simp at hv hu; subst hv; subst hu; exact V1
  | 1 => simp at hv hu; subst hv; subst hu; exact V2
  | j + 2 => simp at hv
end Go.Eng
