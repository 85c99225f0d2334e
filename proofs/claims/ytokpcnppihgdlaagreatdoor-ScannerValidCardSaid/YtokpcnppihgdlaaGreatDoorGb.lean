/- Lemmas that the tied card of ScannerValid is proved by. -/
import Derived.Test.YtokpcnppihgdlaaGreatDoorGa
import Derived.Laws.StructEq
import Derived.Laws.Build
/- The engine, part 4: fields, indices, slices, lengths; then all operations that write nothing in one function. -/
namespace Go.Eng

section
variable {P : Program} {te : TE} (hte : TE.ok P te) {w : World} {M : Nat → Prop} {bs : Nat → Option Hd}
include hte

theorem run_und {t : TypeId} {ti : TI} (ht : lk te t = some ti) : (underlying t).run P w = .ok ti.desc w := run_underlying (hte t ti ht).1 w
theorem run_size {t : TypeId} {ti : TI} (ht : lk te t = some ti) : (sizeOf t).run P w = .ok ti.sz w := by
  obtain ⟨_, ⟨i, hi, hs, _⟩, _⟩ := hte t ti ht
  simp [sizeOf, typeInfo, hi, hs]
theorem run_zero {t : TypeId} {ti : TI} (ht : lk te t = some ti) : (zeroValue t).run P w = .ok ti.zero w := by
  obtain ⟨_, ⟨i, hi, _, _, hz⟩, _⟩ := hte t ti ht
  simp [zeroValue, typeInfo, hi, hz]
end

def fieldOf (te : TE) (t : TypeId) (k : Nat) : Option Field :=
  match lk te t with
  | some ti => match ti.desc with
    | .struct fs => fs.toList[k]?
    | _ => none
  | none => none

/-- The address of a field. -/
def fieldA (te : TE) (t : TypeId) (u : AV) (k : Nat) : Option AV :=
  match fieldOf te t k with
  | some f => match lk te f.type with
    | some ti => match ti.sz with
      | 0 => none
      | _ + 1 => match u with
        | .ptr r off => some (.ptr r (off + f.offset))
        | .eptr r sz i off => some (.eptr r sz i (off + f.offset))
        | .vptr g => some (.vptr (dropL f.offset g))
        | _ => none
    | none => none
  | none => none

theorem add_add (a : Addr) (i j : Nat) : (a.add i).add j = a.add (i + j) := by
  unfold Addr.add
  by_cases hi : i = 0 <;> by_cases hj : j = 0 <;> simp [hi, hj, Nat.add_assoc]

theorem V.vdrop {w : World} {M : Nat → Prop} {bs : Nat → Option Hd} {ad : Addr} {g : List AV} (k : Nat) (h : V w M bs (.pointer (some ad)) (.vptr g)) : V w M bs (.pointer (some (ad.add k))) (.vptr (dropL k g)) := by
  cases h with
  | vptr cv hM hb hc h1 hv =>
    rw [dropL_eq]
    refine .vptr (fun j => cv (k + j)) (by rw [block_add]; exact hM) (by rw [block_add]; exact hb) (fun j hj => ?_) (fun j hj => ?_) (fun j u hu => ?_)
    · rw [List.length_drop] at hj
      rw [add_add]; exact hc _ (by omega)
    · rw [List.length_drop] at hj
      exact h1 _ (by omega)
    · rw [List.getElem?_drop] at hu
      exact hv _ _ hu

theorem fieldA_sound {P : Program} {te : TE} (hte : TE.ok P te) {w : World} {M : Nat → Prop} {bs : Nat → Option Hd} {t : TypeId} {k : Nat} {x : Value} {a u : AV} (hx : V w M bs x a) (h : fieldA te t a k = some u) :
    ∃ v, (Instr.fieldAt t x k).run P w = .ok v w ∧ V w M bs v u := by
  unfold fieldA at h
  split at h
  · rename_i f hf
    split at h
    · rename_i ti hti
      split at h
      · cases h
      · rename_i s hs
        unfold fieldOf at hf
        split at hf
        · rename_i ts hts
          split at hf
          · rename_i fs hfs
            have hu := run_und hte (w := w) hts
            rw [hfs] at hu
            have hf' : fs[k]? = some f := by rw [← hf]; simp
            have hsz := run_size hte (w := w) hti
            have key : ∀ ad, x = .pointer (some ad) → (Instr.fieldAt t x k).run P w = .ok (.pointer (some (ad.add f.offset))) w := by
              intro ad e
              subst e
              simp [Instr.fieldAt, hu, hf', Instr.sureAddr, fieldPlace, hsz, hs]
            split at h <;> simp only [Option.some.injEq, reduceCtorEq] at h <;> subst h
            · cases hx with
              | ptr hb => exact ⟨_, key _ rfl, by rw [Addr.add_lit]; exact .ptr hb⟩
            · cases hx with
              | eptr hb => exact ⟨_, key _ rfl, by rw [Addr.add_lit, Nat.add_assoc]; exact .eptr hb⟩
            · cases hx with
              | vptr cv hM hb hc h1 hv => exact ⟨_, key _ rfl, V.vdrop _ (.vptr cv hM hb hc h1 hv)⟩
          · cases hf
        · cases hf
    · cases h
  · cases h

/-- The address of an element. -/
def indexA (te : TE) (t : TypeId) (u : AV) (k : Int) : Option (AV × Prop) :=
  match lk te t with
  | some ti => match ti.desc with
    | .slice e => match lk te e with
      | some te' => match u with
        | .view sz n f => some (.vptr (f k.toNat), 0 ≤ k ∧ k < n ∧ sz = te'.sz)
        | .own r n => some (.eptr r te'.sz k.toNat 0, 0 ≤ k ∧ k < n)
        | .sub r sz off n => some (.eptr r te'.sz (off + k.toNat) 0, 0 ≤ k ∧ k < n ∧ sz = te'.sz)
        | _ => none
      | none => none
    | .array len e => match lk te e with
      | some te' => match u with
        | .ptr r off => some (.ptr r (off + k.toNat * te'.sz), 0 ≤ k ∧ k < len)
        | _ => none
      | none => none
    | _ => none
  | none => none

theorem indexA_sound {P : Program} {te : TE} (hte : TE.ok P te) {w : World} {M : Nat → Prop} {bs : Nat → Option Hd} {t : TypeId} {kd : IntKind} {k : Int} {x : Value} {a u : AV} {vc : Prop} (hx : V w M bs x a)
    (h : indexA te t a k = some (u, vc)) (hvc : vc) : ∃ v, (Instr.indexAt t x (.int kd k)).run P w = .ok v w ∧ V w M bs v u := by
  unfold indexA at h
  split at h
  · rename_i ti hti
    split at h
    · rename_i e he
      split at h
      · rename_i te' hte'
        have hu := run_und hte (w := w) hti
        rw [he] at hu
        have hsz := run_size hte (w := w) hte'
        have key : ∀ ad n c, x = .slice (some ad) n c → 0 ≤ k → k < n → (Instr.indexAt t x (.int kd k)).run P w = .ok (.pointer (some (ad.add (k.toNat * te'.sz)))) w := by
          intro ad n c ex h0 h1
          subst ex
          simp [Instr.indexAt, hu, asIntOf, h0, h1, hsz]
        split at h <;> simp only [Option.some.injEq, Prod.mk.injEq, reduceCtorEq] at h <;> obtain ⟨rfl, rfl⟩ := h
        · rename_i sz n f
          obtain ⟨h0, h1, rfl⟩ := hvc
          cases hx with
          | view ad cv hn hcm hA hl hc h1' hv =>
            obtain ⟨rfl, hM, hb⟩ := hA (by omega)
            have hk : k.toNat < n := by omega
            have hlen := hl _ hk
            refine ⟨_, key _ _ _ rfl h0 h1, .vptr (cv k.toNat) (by rw [block_add]; exact hM) (by rw [block_add]; exact hb) (fun j hj => ?_) (fun j hj => ?_) (fun j u hu => hv _ hk _ _ hu)⟩
            · rw [add_add]; exact hc _ hk _ (by omega)
            · exact h1' _ hk _ (by omega)
        · rename_i r n
          cases hx with
          | own hb hn hcm =>
            refine ⟨_, key _ _ _ rfl hvc.1 hvc.2, ?_⟩
            rw [Addr.add_lit, Nat.zero_add]
            exact .eptr (off := 0) hb
          | ownnil hb hn => omega
        · rename_i r sz off n
          obtain ⟨h0, h1, rfl⟩ := hvc
          cases hx with
          | sub hb hn hcm hA =>
            obtain rfl := hA (by omega)
            refine ⟨_, key _ _ _ rfl h0 h1, ?_⟩
            rw [Addr.add_lit, ← Nat.add_mul]
            exact .eptr (off := 0) hb
          | subnil hb hn ho => omega
      · cases h
    · rename_i len e he
      split at h
      · rename_i te' hte'
        have hu := run_und hte (w := w) hti
        rw [he] at hu
        have hsz := run_size hte (w := w) hte'
        split at h <;> simp only [Option.some.injEq, Prod.mk.injEq, reduceCtorEq] at h
        obtain ⟨rfl, rfl⟩ := h
        cases hx with
        | ptr hb =>
          refine ⟨_, ?_, .ptr hb⟩
          simp [Instr.indexAt, hu, asIntOf, hvc.1, hvc.2, hsz, Instr.sureAddr, Addr.add_lit]
      · cases h
    · cases h
  · cases h

/-- Slicing: the bounds are abstract integers, or none. -/
def boundA : Option AV → Option (Option Int)
  | none => some none
  | some (.int _ k) => some (some k)
  | _ => none

def sliceA (te : TE) (t : TypeId) (u : AV) (lo hi mx : Option AV) : Option (AV × Prop) :=
  match lk te t with
  | some ti => match boundA lo, boundA hi, boundA mx with
    | some lo, some hi, some none => match ti.desc, u with
      | .string, .str s => match lo, hi with
        | none, none => some (.str s, True)
        | none, some h => some (.str (s.take h.toNat), 0 ≤ h ∧ h ≤ s.length)
        | some l, none => some (.str (s.drop l.toNat), 0 ≤ l ∧ l ≤ s.length)
        | some l, some h => some (.str ((s.take h.toNat).drop l.toNat), 0 ≤ l ∧ l ≤ h ∧ h ≤ s.length)
      | .slice e, .view sz n f => match lk te e with
        | some te' => match lo, hi with
          | none, none => some (.view sz n f, True)
          | none, some h => some (.view sz h.toNat f, 0 ≤ h ∧ h ≤ n)
          | some l, none => some (.view sz (n - l.toNat) (fun i => f (l.toNat + i)), 0 ≤ l ∧ l ≤ n ∧ sz = te'.sz)
          | some l, some h => some (.view sz (h.toNat - l.toNat) (fun i => f (l.toNat + i)), 0 ≤ l ∧ l ≤ h ∧ h ≤ n ∧ sz = te'.sz)
        | none => none
      | .slice e, .own r n => match lk te e with
        | some te' => match lo, hi with
          | none, none => some (.own r n, True)
          | none, some h => some (.own r h.toNat, 0 ≤ h ∧ h ≤ n)
          | some l, none => some (.sub r te'.sz l.toNat (n - l.toNat), 0 ≤ l ∧ l ≤ n)
          | some l, some h => some (.sub r te'.sz l.toNat (h.toNat - l.toNat), 0 ≤ l ∧ l ≤ h ∧ h ≤ n)
        | none => none
      | .slice e, .nil => match lk te e with
        | some _ => match lo, hi with
          | none, none => some (.nil, True)
          | none, some h => some (.nil, h = 0)
          | some l, none => some (.nil, l = 0)
          | some l, some h => some (.nil, l = 0 ∧ h = 0)
        | none => none
      | _, _ => none
    | some (some l), some (some h), some (some m) => match ti.desc with
      | .slice e => match lk te e with
       | none => none
       | some _ => match u with
        | .view _ _ _ => some (.empty, l = 0 ∧ h = 0 ∧ m = 0)
        | .own _ _ => some (.empty, l = 0 ∧ h = 0 ∧ m = 0)
        | .nil => some (.empty, l = 0 ∧ h = 0 ∧ m = 0)
        | _ => none
      | _ => none
    | _, _, _ => none
  | none => none

theorem run_bound {P : Program} {w : World} {k : IntKind} {i : Int} {y : Nat} {c : BoundsCode} (h0 : 0 ≤ i) (h1 : i ≤ y) : (Instr.sliceBound (.int k i) y c).run P w = .ok i.toNat w := by
  simp [Instr.sliceBound, asIntOf, h0, h1]

/-- The bounds in order, whichever of them are given. -/
theorem run_bounds {P : Program} {w : World} {isS : Bool} {len cap : Nat} {lo hi : Option Value} {l h : Option Int}
    (hlo : ∀ v, lo = some v → ∃ k i, v = .int k i ∧ l = some i) (hlo' : lo = none → l = none) (hhi : ∀ v, hi = some v → ∃ k i, v = .int k i ∧ h = some i) (hhi' : hi = none → h = none)
    (h1 : 0 ≤ l.getD 0) (h2 : l.getD 0 ≤ h.getD len) (h3 : h.getD len ≤ cap) :
    (Instr.sliceBounds isS len cap lo hi none).run P w = .ok ((l.getD 0).toNat, (h.getD len).toNat, cap) w := by
  cases hi with
  | none =>
    obtain rfl := hhi' rfl
    cases lo with
    | none =>
      obtain rfl := hlo' rfl
      simp [Instr.sliceBounds]
    | some v =>
      obtain ⟨k, i, rfl, rfl⟩ := hlo v rfl
      simp only [Option.getD_some, Option.getD_none] at h1 h2 h3 ⊢
      simp [Instr.sliceBounds, run_bound h1 h2]
  | some u =>
    obtain ⟨k', i', rfl, rfl⟩ := hhi u rfl
    cases lo with
    | none =>
      obtain rfl := hlo' rfl
      simp only [Option.getD_some, Option.getD_none] at h1 h2 h3 ⊢
      simp [Instr.sliceBounds, run_bound (show 0 ≤ i' by omega) h3]
    | some v =>
      obtain ⟨k, i, rfl, rfl⟩ := hlo v rfl
      simp only [Option.getD_some] at h1 h2 h3 ⊢
      simp [Instr.sliceBounds, run_bound (show 0 ≤ i' by omega) h3, run_bound (y := i'.toNat) h1 (by omega)]

theorem boundA_sound {w : World} {M : Nat → Prop} {bs : Nat → Option Hd} {lo : Option Value} {a : Option AV} {l : Option Int} (h : boundA a = some l) (hv : ∀ v, lo = some v → ∃ u, a = some u ∧ V w M bs v u) (hn : lo = none → a = none) :
    (∀ v, lo = some v → ∃ k i, v = .int k i ∧ l = some i) ∧ (lo = none → l = none) := by
  cases lo with
  | none =>
    obtain rfl := hn rfl
    simp only [boundA, Option.some.injEq] at h
    exact ⟨fun v hv => (by cases hv), fun _ => h.symm⟩
  | some v =>
    refine ⟨fun v' hv' => ?_, fun hh => by cases hh⟩
    cases hv'
    obtain ⟨u, rfl, hV⟩ := hv v rfl
    cases u with
    | int k i =>
      simp only [boundA, Option.some.injEq] at h
      cases hV
      exact ⟨_, _, rfl, h.symm⟩
    | _ => simp [boundA] at h

theorem V.vcut {w : World} {M : Nat → Prop} {bs : Nat → Option Hd} {A : Option Addr} {n c sz : Nat} {f : Nat → List AV} (h : V w M bs (.slice A n c) (.view sz n f)) {l m : Nat} (hl : l ≤ m) (hm : m ≤ n) :
    V w M bs (.slice (if c = l then A else A.map (·.add (l * sz))) (m - l) (c - l)) (.view sz (m - l) fun i => f (l + i)) := by
  cases h with
  | view ad cv hn hcm hA hlen hc h1 hv =>
    refine .view (ad.add (l * sz)) (fun i => cv (l + i)) (by omega) (by omega) (fun h0 => ?_) (fun i hi => hlen _ (by omega)) (fun i hi j hj => ?_) (fun i hi j hj => h1 _ (by omega) _ hj) (fun i hi j u hu => hv _ (by omega) _ _ hu)
    · obtain ⟨rfl, hM, hb⟩ := hA (by omega)
      exact ⟨by rw [if_neg (by omega)]; rfl, by rw [block_add]; exact hM, by rw [block_add]; exact hb⟩
    · rw [add_add]
      have := hc (l + i) (by omega) j hj
      rwa [Nat.add_mul, Nat.add_assoc] at this

theorem V.vless {w : World} {M : Nat → Prop} {bs : Nat → Option Hd} {A : Option Addr} {n c sz : Nat} {f : Nat → List AV} (h : V w M bs (.slice A n c) (.view sz n f)) {m : Nat} (hm : m ≤ n) :
    V w M bs (.slice A m c) (.view sz m f) := by
  cases h with
  | view ad cv hn hcm hA hlen hc h1 hv =>
    exact .view ad cv (by omega) hcm (fun h0 => hA (by omega)) (fun i hi => hlen _ (by omega)) (fun i hi j hj => hc _ (by omega) _ hj) (fun i hi j hj => h1 _ (by omega) _ hj) (fun i hi j u hu => hv _ (by omega) _ _ hu)

theorem sliceA_sound {P : Program} {te : TE} (hte : TE.ok P te) {w : World} {M : Nat → Prop} {bs : Nat → Option Hd} {t : TypeId} {x : Value} {a u : AV} {vc : Prop} {lo hi mx : Option Value} {al ah am : Option AV} (hx : V w M bs x a)
    (hl : ∀ v, lo = some v → ∃ u, al = some u ∧ V w M bs v u) (hl' : lo = none → al = none) (hh : ∀ v, hi = some v → ∃ u, ah = some u ∧ V w M bs v u) (hh' : hi = none → ah = none)
    (hm : ∀ v, mx = some v → ∃ u, am = some u ∧ V w M bs v u) (hm' : mx = none → am = none)
    (h : sliceA te t a al ah am = some (u, vc)) (hvc : vc) : ∃ v, (Instr.sliceAt t x lo hi mx).run P w = .ok v w ∧ V w M bs v u := by
  unfold sliceA at h
  split at h
  case h_2 => cases h
  rename_i ti hti
  have hu := run_und hte (w := w) hti
  split at h
  case h_3 => cases h
  · rename_i l h' e1 e2 e3
    obtain ⟨bl, bl'⟩ := boundA_sound e1 hl hl'
    obtain ⟨bh, bh'⟩ := boundA_sound e2 hh hh'
    obtain ⟨bm, bm'⟩ := boundA_sound e3 hm hm'
    have hmx : mx = none := by
      cases mx with
      | none => rfl
      | some v => obtain ⟨k, i, _, hc⟩ := bm v rfl; cases hc
    subst hmx
    split at h
    · rename_i s hd
      rw [hd] at hu
      cases hx with
      | str hs =>
        rename_i b
        have hlen : b.size = s.length := by rw [← hs]; simp
        have key : 0 ≤ l.getD 0 → l.getD 0 ≤ h'.getD s.length → h'.getD s.length ≤ s.length →
            (Instr.sliceAt t (.string b) lo hi none).run P w = .ok (.string (b.extract (l.getD 0).toNat (h'.getD s.length).toNat)) w := by
          intro k1 k2 k3
          have := run_bounds (P := P) (w := w) (isS := false) (len := b.size) (cap := b.size) bl bl' bh bh' k1 (by rw [hlen]; exact k2) (by rw [hlen]; exact k3)
          rw [← hlen]
          simp [Instr.sliceAt, hu, Instr.slice, this]
        have ext : ∀ i j, (b.extract i j).data.toList = (s.take j).drop i := by
          intro i j
          rw [← hs]
          simp [ByteArray.data_extract, Array.toList_extract, List.extract_eq_take_drop, List.drop_take]
        split at h <;> simp only [Option.some.injEq, Prod.mk.injEq] at h <;> obtain ⟨rfl, rfl⟩ := h
        · refine ⟨_, key (by simp) (by simp) (by simp), .str ?_⟩
          rw [ext]; simp
        · simp only [Option.getD_none, Option.getD_some] at key
          refine ⟨_, key (by omega) (by omega) (by omega), .str ?_⟩
          rw [ext]; simp
        · simp only [Option.getD_none, Option.getD_some] at key
          refine ⟨_, key (by omega) (by omega) (by omega), .str ?_⟩
          rw [ext]; simp
        · simp only [Option.getD_some] at key
          refine ⟨_, key (by omega) (by omega) (by omega), .str ?_⟩
          rw [ext]
    · rename_i e sz n f hd
      rw [hd] at hu
      split at h
      case h_2 => cases h
      rename_i te' hte'
      have hsz := run_size hte (w := w) hte'
      have hx' := hx
      cases hx with
      | view ad cv hn hcm hA hlen hc h1 hv =>
        rename_i A c
        have key : 0 ≤ l.getD 0 → l.getD 0 ≤ h'.getD n → h'.getD n ≤ n →
            (Instr.sliceAt t (.slice A n c) lo hi none).run P w = .ok (.slice (if c = (l.getD 0).toNat then A else A.map (·.add ((l.getD 0).toNat * te'.sz))) ((h'.getD n).toNat - (l.getD 0).toNat) (c - (l.getD 0).toNat)) w := by
          intro k1 k2 k3
          have := run_bounds (P := P) (w := w) (isS := true) (len := n) (cap := c) bl bl' bh bh' k1 k2 (by omega)
          simp [Instr.sliceAt, hu, Instr.slice, this, hsz]
        split at h <;> simp only [Option.some.injEq, Prod.mk.injEq] at h <;> obtain ⟨rfl, rfl⟩ := h
        · refine ⟨_, key (by simp) (by simp) (by simp), ?_⟩
          simpa [Addr.add_zero'] using hx'
        · simp only [Option.getD_none, Option.getD_some] at key
          refine ⟨_, key (by omega) (by omega) (by omega), ?_⟩
          simp only [Int.toNat_zero, Nat.zero_mul, Addr.add_zero', Option.map_id', ite_self, Nat.sub_zero]
          exact hx'.vless (by omega)
        · obtain ⟨v1, v2, rfl⟩ := hvc
          simp only [Option.getD_none, Option.getD_some] at key
          refine ⟨_, key (by omega) (by omega) (by omega), ?_⟩
          exact hx'.vcut (m := n) (by omega) (Nat.le_refl _)
        · obtain ⟨v1, v2, v3, rfl⟩ := hvc
          simp only [Option.getD_some] at key
          refine ⟨_, key (by omega) (by omega) (by omega), ?_⟩
          exact hx'.vcut (by omega) (by omega)
    · rename_i e r n hd
      rw [hd] at hu
      split at h
      case h_2 => cases h
      rename_i te' hte'
      have hsz := run_size hte (w := w) hte'
      have key : ∀ A c, x = .slice A n c → n ≤ c → 0 ≤ l.getD 0 → l.getD 0 ≤ h'.getD n → h'.getD n ≤ n →
          (Instr.sliceAt t x lo hi none).run P w = .ok (.slice (if c = (l.getD 0).toNat then A else A.map (·.add ((l.getD 0).toNat * te'.sz))) ((h'.getD n).toNat - (l.getD 0).toNat) (c - (l.getD 0).toNat)) w := by
        intro A c ex hn k1 k2 k3
        subst ex
        have := run_bounds (P := P) (w := w) (isS := true) (len := n) (cap := c) bl bl' bh bh' k1 k2 (by omega)
        simp [Instr.sliceAt, hu, Instr.slice, this, hsz]
      cases hx with
      | own hb hn hcm =>
        rename_i b c
        replace key := key _ _ rfl hn
        split at h <;> simp only [Option.some.injEq, Prod.mk.injEq] at h <;> obtain ⟨rfl, rfl⟩ := h
        · refine ⟨_, key (by simp) (by simp) (by simp), ?_⟩
          simpa [Addr.add_zero'] using V.own (w := w) (M := M) hb hn hcm
        · simp only [Option.getD_none, Option.getD_some] at key
          refine ⟨_, key (by omega) (by omega) (by omega), ?_⟩
          simp only [Int.toNat_zero, Nat.zero_mul, Addr.add_zero', Nat.sub_zero, Option.map_some, ite_self]
          exact .own hb (by omega) hcm
        · simp only [Option.getD_none, Option.getD_some] at key
          refine ⟨_, key (by omega) (by omega) (by omega), ?_⟩
          rw [Int.toNat_natCast]
          exact .sub hb (by omega) hcm (fun h0 => by rw [if_neg (by omega)]; simp [Addr.add_lit])
        · simp only [Option.getD_some] at key
          refine ⟨_, key (by omega) (by omega) (by omega), ?_⟩
          exact .sub hb (by omega) hcm (fun h0 => by rw [if_neg (by omega)]; simp [Addr.add_lit])
      | ownnil hb hn =>
        rename_i A
        subst hn
        replace key := key _ _ rfl (Nat.le_refl _)
        split at h <;> simp only [Option.some.injEq, Prod.mk.injEq] at h <;> obtain ⟨rfl, rfl⟩ := h
        · refine ⟨_, key (by simp) (by simp) (by simp), ?_⟩
          simpa using V.ownnil hb rfl
        · simp only [Option.getD_none, Option.getD_some] at key
          refine ⟨_, key (by omega) (by omega) (by omega), ?_⟩
          simp only [Int.toNat_zero, Nat.zero_mul, Addr.add_zero', Nat.sub_zero, ite_true]
          rw [show Int.toNat _ = 0 from by omega]
          exact .ownnil hb rfl
        · simp only [Option.getD_none, Option.getD_some] at key
          refine ⟨_, key (by omega) (by omega) (by omega), ?_⟩
          rename_i l0
          have e : l0.toNat = 0 := by omega
          simp only [e, ite_true]
          exact .subnil hb rfl rfl
        · simp only [Option.getD_some] at key
          refine ⟨_, key (by omega) (by omega) (by omega), ?_⟩
          rename_i l0 h0
          have e : l0.toNat = 0 := by omega
          have e' : h0.toNat = 0 := by omega
          simp only [e, e', ite_true]
          exact .subnil hb rfl rfl
    · rename_i e hd
      rw [hd] at hu
      split at h
      case h_2 => cases h
      rename_i te' hte'
      have hsz := run_size hte (w := w) hte'
      cases hx
      have key : l.getD 0 = 0 → h'.getD 0 = 0 → (Instr.sliceAt t (.slice none 0 0) lo hi none).run P w = .ok (.slice none 0 0) w := by
        intro k1 k2
        have := run_bounds (P := P) (w := w) (isS := true) (len := 0) (cap := 0) bl bl' bh bh' (by omega) (by show l.getD 0 ≤ h'.getD 0; omega) (by show h'.getD 0 ≤ 0; omega)
        rw [show ((0 : Nat) : Int) = 0 from rfl, k1, k2] at this
        simp [Instr.sliceAt, hu, Instr.slice, this, hsz]
      split at h <;> simp only [Option.some.injEq, Prod.mk.injEq] at h <;> obtain ⟨rfl, rfl⟩ := h
      · exact ⟨_, key rfl rfl, .nil⟩
      · exact ⟨_, key rfl (by simpa using hvc), .nil⟩
      · exact ⟨_, key (by simpa using hvc) rfl, .nil⟩
      · exact ⟨_, key (by simpa using hvc.1) (by simpa using hvc.2), .nil⟩
    · cases h
  · rename_i l h' m e1 e2 e3
    obtain ⟨bl, bl'⟩ := boundA_sound e1 hl hl'
    obtain ⟨bh, bh'⟩ := boundA_sound e2 hh hh'
    obtain ⟨bm, bm'⟩ := boundA_sound e3 hm hm'
    have some_of : ∀ {o : Option Value} {i : Int}, (o = none → some i = none) → (∀ v, o = some v → ∃ k j, v = .int k j ∧ some i = some j) → ∃ k, o = some (.int k i) := by
      intro o i h1 h2
      cases o with
      | none => cases h1 rfl
      | some v =>
        obtain ⟨k, j, rfl, e⟩ := h2 v rfl
        injection e with e
        subst e
        exact ⟨k, rfl⟩
    obtain ⟨kl, rfl⟩ := some_of bl' bl
    obtain ⟨kh, rfl⟩ := some_of bh' bh
    obtain ⟨km, rfl⟩ := some_of bm' bm
    split at h
    case h_2 => cases h
    rename_i e hd
    rw [hd] at hu
    split at h
    case h_1 => cases h
    rename_i te' hte'
    have hsz := run_size hte (w := w) hte'
    have key : ∀ A n c, x = .slice A n c → l = 0 ∧ h' = 0 ∧ m = 0 → ∃ v, (Instr.sliceAt t x (some (.int kl l)) (some (.int kh h')) (some (.int km m))).run P w = .ok v w ∧ V w M bs v .empty := by
      rintro A n c rfl ⟨rfl, rfl, rfl⟩
      refine ⟨.slice A 0 0, ?_, .empty⟩
      simp [Instr.sliceAt, hu, Instr.slice, Instr.sliceBounds, Instr.sliceBound, asIntOf, hsz]
    split at h <;> simp only [Option.some.injEq, Prod.mk.injEq, reduceCtorEq] at h <;> obtain ⟨rfl, rfl⟩ := h
    · cases hx; exact key _ _ _ rfl hvc
    · cases hx <;> exact key _ _ _ rfl hvc
    · cases hx; exact key _ _ _ rfl hvc

end Go.Eng
/- The engine, part 5: structs built and compared; then all operations that write nothing in one function. -/
namespace Go.Eng

/-- A value of a type, by its cells. -/
def CV (w : World) (M : Nat → Prop) (bs : Nat → Option Hd) (ag : Bool) (v : Value) (cs : List AV) : Prop :=
  match ag with
  | true => ∃ vs : Array Value, v = .agg vs ∧ vs.size = cs.length ∧ (∀ (j : Nat) (x : Value), vs[j]? = some x → x.oneCell' = true) ∧ ∀ (j : Nat) x u, vs[j]? = some x → cs[j]? = some u → V w M bs x u
  | false => ∃ u, cs = [u] ∧ V w M bs v u

def eqFieldsA (rc : TypeId → List AV → List AV → Option Bool) (te : TE) (xs ys : List AV) : List Field → Option Bool
  | [] => some true
  | [f] => match lk te f.type with
    | some tf => match takeN tf.sz (dropL f.offset xs), takeN tf.sz (dropL f.offset ys) with
      | some a, some b => rc f.type a b
      | _, _ => none
    | none => none
  | f :: fs => match lk te f.type with
    | some tf => match takeN tf.sz (dropL f.offset xs), takeN tf.sz (dropL f.offset ys) with
      | some a, some b => match rc f.type a b, eqFieldsA rc te xs ys fs with
        | some p, some q => some (p && q)
        | _, _ => none
      | _, _ => none
    | none => none

def eqA (te : TE) : Nat → TypeId → List AV → List AV → Option Bool
  | 0, _, _, _ => none
  | d + 1, t, xs, ys => match lk te t with
    | some ti => match ti.desc with
      | .int _ => match xs, ys with
        | [.int k a], [.int k' b] => if k = k' then some (decide (a = b)) else none
        | _, _ => none
      | .string => match xs, ys with
        | [.str a], [.str b] => some (decide (a = b))
        | _, _ => none
      | .bool => match xs, ys with
        | [.bool a], [.bool b] => some (decide (a = b))
        | _, _ => none
      | .struct fs => match ti.cmp with
        | true => eqFieldsA (eqA te d) te xs ys fs.toList
        | false => none
      | _ => none
    | none => none

theorem run_part {P : Program} {te : TE} (hte : TE.ok P te) {w : World} {M : Nat → Prop} {bs : Nat → Option Hd} {t : TypeId} {ti : TI} (ht : lk te t = some ti) {vs : Array Value} {cs a : List AV} {off : Nat}
    (hn : isAggD ti.desc = false → ti.sz = 1)
    (hsz : vs.size = cs.length) (h1 : ∀ (j : Nat) (x : Value), vs[j]? = some x → x.oneCell' = true) (hV : ∀ (j : Nat) x u, vs[j]? = some x → cs[j]? = some u → V w M bs x u) (h : takeN ti.sz (dropL off cs) = some a) :
    ∃ v, (part t vs off).run P w = .ok v w ∧ CV w M bs (isAggD ti.desc) v a := by
  obtain ⟨hl, rfl⟩ := takeN_eq h
  rw [dropL_eq] at hl ⊢
  rw [List.length_drop] at hl
  have hu := run_und hte (w := w) ht
  have hagg : (isAgg t).run P w = .ok (isAggD ti.desc) w := by
    simp only [isAgg, Sem.run_bind, hu, Result.andThen_ok]
    cases ti.desc <;> simp [isAggD]
  cases hd : isAggD ti.desc with
  | true =>
    refine ⟨.agg (vs.extract off (off + ti.sz)), by simp [part, hagg, hd, run_size hte (w := w) ht], _, rfl, ?_, fun j x hx => ?_, fun j x u hx hu => ?_⟩
    · simp; omega
    · rw [Array.getElem?_extract] at hx
      split at hx
      · exact h1 _ _ hx
      · cases hx
    · rw [Array.getElem?_extract] at hx
      rw [List.getElem?_take, List.getElem?_drop] at hu
      split at hx
      · split at hu
        · exact hV _ _ _ hx hu
        · cases hu
      · cases hx
  | false =>
    have hs := hn hd
    have hlt : off < vs.size := by omega
    refine ⟨vs[off], by simp [part, hagg, hd, hlt], cs[off]'(by omega), ?_, hV off _ _ (by simp [hlt]) (by simp [show off < cs.length by omega])⟩
    rw [hs, List.drop_eq_getElem_cons (by omega)]
    rfl

theorem eqFieldsA_sound {P : Program} {te : TE} (hte : TE.ok P te) {w : World} {M : Nat → Prop} {bs : Nat → Option Hd} {n : Nat} {rc : TypeId → List AV → List AV → Option Bool}
    (hn : ∀ t ti, lk te t = some ti → isAggD ti.desc = false → ti.sz = 1)
    (hrc : ∀ t ti x y a b r, lk te t = some ti → CV w M bs (isAggD ti.desc) x a → CV w M bs (isAggD ti.desc) y b → rc t a b = some r → (Op.equalIn n t x y).run P w = .ok r w)
    {vs us : Array Value} {xs ys : List AV} (s1 : vs.size = xs.length) (o1 : ∀ (j : Nat) (x : Value), vs[j]? = some x → x.oneCell' = true) (V1 : ∀ (j : Nat) x u, vs[j]? = some x → xs[j]? = some u → V w M bs x u)
    (s2 : us.size = ys.length) (o2 : ∀ (j : Nat) (x : Value), us[j]? = some x → x.oneCell' = true) (V2 : ∀ (j : Nat) x u, us[j]? = some x → ys[j]? = some u → V w M bs x u) :
    ∀ (fs : List Field) (r : Bool), (∀ f ∈ fs, f.name ≠ "_") → eqFieldsA rc te xs ys fs = some r → (Op.eqFields n vs us fs).run P w = .ok r w
  | [], r, _, h => by simp [eqFieldsA] at h; subst h; simp [Op.eqFields]
  | [f], r, hb, h => by
    simp only [eqFieldsA] at h
    split at h
    · rename_i tf htf
      split at h
      · rename_i a b ha hb'
        obtain ⟨v, hv, cv⟩ := run_part hte htf (hn _ _ htf) s1 o1 V1 ha
        obtain ⟨u, hu, cu⟩ := run_part hte htf (hn _ _ htf) s2 o2 V2 hb'
        have := hrc _ _ _ _ _ _ _ htf cv cu h
        simp only [Op.eqFields, if_pos (hb f (by simp)), Sem.run_bind, hv, hu, this, Result.andThen_ok]
        cases r <;> simp
      · cases h
    · cases h
  | f :: g :: fs, r, hb, h => by
    simp only [eqFieldsA] at h
    split at h
    · rename_i tf htf
      split at h
      · rename_i a b ha hb'
        split at h
        · rename_i p q hp hq
          simp only [Option.some.injEq] at h
          subst h
          obtain ⟨v, hv, cv⟩ := run_part hte htf (hn _ _ htf) s1 o1 V1 ha
          obtain ⟨u, hu, cu⟩ := run_part hte htf (hn _ _ htf) s2 o2 V2 hb'
          have h1 := hrc _ _ _ _ _ _ _ htf cv cu hp
          have h2 := eqFieldsA_sound hte hn hrc s1 o1 V1 s2 o2 V2 (g :: fs) q (fun x hx => hb x (List.mem_cons_of_mem _ hx)) hq
          rw [Op.eqFields]
          simp only [if_pos (hb f (by simp)), Sem.run_bind, hv, hu, h1, Result.andThen_ok]
          cases p <;> simp [h2]
        · cases h
      · cases h
    · cases h

theorem eqA_sound {P : Program} {te : TE} (hte : TE.ok P te) (hn : ∀ t ti, lk te t = some ti → isAggD ti.desc = false → ti.sz = 1) {w : World} {M : Nat → Prop} {bs : Nat → Option Hd} :
    ∀ (d n : Nat) (t : TypeId) (ti : TI) (x y : Value) (a b : List AV) (r : Bool), lk te t = some ti → CV w M bs (isAggD ti.desc) x a → CV w M bs (isAggD ti.desc) y b → eqA te d t a b = some r → (Op.equalIn (d + n) t x y).run P w = .ok r w
  | 0, n, t, ti, x, y, a, b, r, ht, hx, hy, h => by simp [eqA] at h
  | d + 1, n, t, ti, x, y, a, b, r, ht, hx, hy, h => by
    obtain ⟨hu, _, hc⟩ := hte t ti ht
    rw [show d + 1 + n = (d + n) + 1 by omega]
    simp only [eqA, ht] at h
    split at h
    · rename_i k hd
      rw [hd] at hx hy hu
      obtain ⟨u, rfl, hV⟩ := hx
      obtain ⟨u', rfl, hV'⟩ := hy
      split at h
      · rename_i e1 e2
        simp only [List.cons.injEq, and_true] at e1 e2
        subst e1; subst e2
        split at h
        · rename_i hk
          subst hk
          simp only [Option.some.injEq] at h
          subst h
          cases hV; cases hV'
          rw [run_equalIn_int _ _ _ _ _ _ _ hu]
          rfl
        · cases h
      · cases h
    · rename_i hd
      rw [hd] at hx hy hu
      obtain ⟨u, rfl, hV⟩ := hx
      obtain ⟨u', rfl, hV'⟩ := hy
      split at h
      · rename_i e1 e2
        simp only [List.cons.injEq, and_true] at e1 e2
        subst e1; subst e2
        simp only [Option.some.injEq] at h
        subst h
        cases hV with | str e1 => cases hV' with | str e2 =>
        subst e1; subst e2
        rw [run_equalIn_string _ _ _ _ _ hu, tolist_beq]
      · cases h
    · rename_i hd
      rw [hd] at hx hy hu
      obtain ⟨u, rfl, hV⟩ := hx
      obtain ⟨u', rfl, hV'⟩ := hy
      split at h
      · rename_i e1 e2
        simp only [List.cons.injEq, and_true] at e1 e2
        subst e1; subst e2
        simp only [Option.some.injEq] at h
        subst h
        cases hV; cases hV'
        rw [eqIn_bool _ _ hu]
        rfl
      · cases h
    · rename_i fs hd
      rw [hd] at hx hy hu
      split at h
      · rename_i hcmp
        obtain ⟨hp, _, hb⟩ := hc hcmp
        obtain ⟨vs, rfl, s1, o1, V1⟩ := hx
        obtain ⟨us, rfl, s2, o2, V2⟩ := hy
        have hf : P.fieldsOf t = fs := by simp [Program.fieldsOf, hu]
        rw [run_equalIn_struct w (d + n) t vs us (by rw [hf]; exact hu) hp, hf]
        exact eqFieldsA_sound hte hn (fun t ti x y a b r h1 h2 h3 h4 => eqA_sound hte hn d n t ti x y a b r h1 h2 h3 h4) s1 o1 V1 s2 o2 V2 fs.toList r (hb fs hd) h
      · cases h
    · cases h

end Go.Eng
/- The engine, part 6: structs and arrays built; all operations that write nothing in one function. -/
namespace Go.Eng

def spliceA : List AV → Nat → List AV → Option (List AV)
  | cs, 0, [] => some cs
  | [], _, _ :: _ => none
  | [], _ + 1, [] => none
  | _ :: cs, 0, x :: xs => match spliceA cs 0 xs with
    | some r => some (x :: r)
    | none => none
  | c :: cs, k + 1, xs => match spliceA cs k xs with
    | some r => some (c :: r)
    | none => none

theorem spliceA_spec : ∀ (cs : List AV) (off : Nat) (xs r : List AV), spliceA cs off xs = some r →
    r.length = cs.length ∧ off + xs.length ≤ cs.length ∧ ∀ j, r[j]? = if off ≤ j ∧ j < off + xs.length then xs[j - off]? else cs[j]?
  | cs, 0, [], r, h => by
    have : r = cs := by cases cs <;> simp [spliceA] at h <;> first | exact h | exact h.symm
    subst this
    exact ⟨rfl, by simp, fun j => by rw [if_neg]; simp⟩
  | [], 0, x :: xs, r, h => by simp [spliceA] at h
  | [], k + 1, xs, r, h => by cases xs <;> simp [spliceA] at h
  | c :: cs, 0, x :: xs, r, h => by
    simp only [spliceA] at h
    split at h
    · rename_i r' hr
      simp only [Option.some.injEq] at h
      subst h
      obtain ⟨h1, h2, h3⟩ := spliceA_spec cs 0 xs r' hr
      refine ⟨by simp [h1], by simp only [List.length_cons]; omega, fun j => ?_⟩
      cases j with
      | zero => simp
      | succ j =>
        simp only [List.getElem?_cons_succ, h3 j, List.length_cons, Nat.zero_le, true_and, Nat.zero_add, Nat.sub_zero, Nat.add_lt_add_iff_right]
        try split <;> simp
    · cases h
  | c :: cs, k + 1, xs, r, h => by
    simp only [spliceA] at h
    split at h
    · rename_i r' hr
      simp only [Option.some.injEq] at h
      subst h
      obtain ⟨h1, h2, h3⟩ := spliceA_spec cs k xs r' hr
      refine ⟨by simp [h1], by simp only [List.length_cons]; omega, fun j => ?_⟩
      cases j with
      | zero => simp
      | succ j =>
        simp only [List.getElem?_cons_succ, h3 j]
        have e : (k ≤ j ∧ j < k + xs.length) ↔ (k + 1 ≤ j + 1 ∧ j + 1 < k + 1 + xs.length) := by omega
        simp only [e]
        split
        · congr 1; omega
        · rfl
    · cases h

def cellsA : AV → Option (List AV)
  | .agg cs => some cs
  | .any => none
  | .tuple _ => none
  | u => some [u]

theorem cellsA_sound {w : World} {M : Nat → Prop} {bs : Nat → Option Hd} {v : Value} {u : AV} {cs : List AV} (hv : V w M bs v u) (h : cellsA u = some cs) :
    v.cells.size = cs.length ∧ (∀ (j : Nat) (x : Value), v.cells[j]? = some x → x.oneCell' = true) ∧ ∀ (j : Nat) x y, v.cells[j]? = some x → cs[j]? = some y → V w M bs x y := by
  have key : v.cells = #[v] → v.oneCell' = true → cs = [u] → v.cells.size = cs.length ∧ (∀ (j : Nat) (x : Value), v.cells[j]? = some x → x.oneCell' = true) ∧ ∀ (j : Nat) x y, v.cells[j]? = some x → cs[j]? = some y → V w M bs x y := fun hc h1 e => by
    subst e
    refine ⟨by rw [hc]; rfl, fun j x hx => ?_, fun j x y hx hy => ?_⟩
    · rw [hc] at hx
      cases j with
      | zero => simp at hx; subst hx; exact h1
      | succ j => simp at hx
    · rw [hc] at hx
      cases j with
      | zero => simp at hx hy; subst hx; subst hy; exact hv
      | succ j => simp at hx
  cases hv with
  | agg hl h1 hV => simp only [cellsA, Option.some.injEq] at h; subst h; exact ⟨hl, h1, hV⟩
  | any => simp [cellsA] at h
  | tuple hl hV => simp [cellsA] at h
  | _ => simp only [cellsA, Option.some.injEq] at h; exact key rfl rfl h.symm

/-- An array of cells that stands for a list of abstract cells. -/
def CellsV (w : World) (M : Nat → Prop) (bs : Nat → Option Hd) (vs : Array Value) (cs : List AV) : Prop :=
  vs.size = cs.length ∧ (∀ (j : Nat) (x : Value), vs[j]? = some x → x.oneCell' = true) ∧ ∀ (j : Nat) x y, vs[j]? = some x → cs[j]? = some y → V w M bs x y

theorem foldl_set (off : Nat) : ∀ (l : List Value) (k : Nat) (cs : Array Value), off + k + l.length ≤ cs.size →
    ((l.zipIdx k).foldl (fun (cs : Array Value) (p : Value × Nat) => cs.setIfInBounds (off + p.2) p.1) cs).size = cs.size ∧
    ∀ j, ((l.zipIdx k).foldl (fun (cs : Array Value) (p : Value × Nat) => cs.setIfInBounds (off + p.2) p.1) cs)[j]? = if off + k ≤ j ∧ j < off + k + l.length then l[j - (off + k)]? else cs[j]?
  | [], k, cs, _ => by simp; intro j h1 h2; omega
  | x :: l, k, cs, h => by
    simp only [List.length_cons] at h
    simp only [List.zipIdx_cons, List.foldl_cons]
    obtain ⟨h1, h2⟩ := foldl_set off l (k + 1) (cs.setIfInBounds (off + k) x) (by simp; omega)
    refine ⟨by rw [h1]; simp, fun j => ?_⟩
    rw [h2 j]
    simp only [List.length_cons]
    by_cases hj : j = off + k
    · subst hj
      rw [if_neg (by omega), if_pos (by omega)]
      simp [show off + k < cs.size by omega]
    · by_cases hlt : off + (k + 1) ≤ j ∧ j < off + (k + 1) + l.length
      · rw [if_pos hlt, if_pos (by omega), show j - (off + k) = (j - (off + (k + 1))) + 1 by omega, List.getElem?_cons_succ]
      · rw [if_neg hlt, if_neg (by omega), Array.getElem?_setIfInBounds_ne (by omega)]

theorem splice_sound {w : World} {M : Nat → Prop} {bs : Nat → Option Hd} {vs : Array Value} {cs xs r : List AV} {off : Nat} {new : Array Value} (hc : CellsV w M bs vs cs) (hn : CellsV w M bs new xs) (h : spliceA cs off xs = some r) :
    CellsV w M bs (new.zipIdx.foldl (fun cs p => cs.setIfInBounds (off + p.2) p.1) vs) r ∧ off + new.size ≤ vs.size := by
  obtain ⟨l1, l2, l3⟩ := spliceA_spec cs off xs r h
  have hb : off + new.size ≤ vs.size := by rw [hc.1, hn.1]; exact l2
  have e : new.zipIdx.foldl (fun cs p => cs.setIfInBounds (off + p.2) p.1) vs = ((new.toList.zipIdx 0).foldl (fun (cs : Array Value) (p : Value × Nat) => cs.setIfInBounds (off + p.2) p.1) vs) := by
    rw [← Array.foldl_toList]; simp
  obtain ⟨f1, f2⟩ := foldl_set off new.toList 0 vs (by simpa using hb)
  rw [e]
  simp only [Nat.add_zero, Array.length_toList, Array.getElem?_toList] at f2
  refine ⟨⟨by rw [f1, hc.1, l1], fun j x hx => ?_, fun j x y hx hy => ?_⟩, hb⟩
  · rw [f2 j] at hx
    split at hx
    · exact hn.2.1 _ _ hx
    · exact hc.2.1 _ _ hx
  · rw [f2 j] at hx
    rw [l3 j] at hy
    rw [hn.1] at hx
    split at hx
    · rename_i hh; rw [if_pos hh] at hy; exact hn.2.2 _ _ _ hx hy
    · rename_i hh; rw [if_neg hh] at hy; exact hc.2.2 _ _ _ hx hy

def fillA (T : Nat → Option AV) (place : Nat → Option (Nat × Nat)) : List AV → List (Nat × Operand) → Option (List AV)
  | cs, [] => some cs
  | cs, (i, x) :: rest => match place i with
    | some (off, sz) => match evO T x with
      | some u => match cellsA u with
        | some new => match Nat.beq new.length sz with
          | true => match spliceA cs off new with
            | some cs' => fillA T place cs' rest
            | none => none
          | false => none
        | none => none
      | none => none
    | none => none

theorem fillA_sound {w : World} {M : Nat → Prop} {bs : Nat → Option Hd} {N : Nat} {T : Nat → Option AV} {a : Act} (hF : FRep w M bs N T a) {place : Nat → Option (Nat × Nat)} :
    ∀ (parts : List (Nat × Operand)) (vs : Array Value) (cs r : List AV), CellsV w M bs vs cs → fillA T place cs parts = some r →
      ∃ vs', Instr.fill place vs (parts.map fun (i, x) => (i, a.eval x)) = some vs' ∧ CellsV w M bs vs' r
  | [], vs, cs, r, hc, h => by simp only [fillA, Option.some.injEq] at h; subst h; exact ⟨vs, rfl, hc⟩
  | (i, x) :: rest, vs, cs, r, hc, h => by
    simp only [fillA] at h
    split at h
    · rename_i off sz hp
      split at h
      · rename_i u hu
        split at h
        · rename_i new hnew
          split at h
          · rename_i hsz
            split at h
            · rename_i cs' hs
              have hsz := Nat.eq_of_beq_eq_true hsz
              have hn : CellsV w M bs (a.eval x).cells new := cellsA_sound (evO_sound hF hu) hnew
              obtain ⟨hc', hb⟩ := splice_sound hc hn hs
              obtain ⟨vs', hf, hv⟩ := fillA_sound hF rest _ cs' r hc' h
              refine ⟨vs', ?_, hv⟩
              simp only [List.map_cons, Instr.fill, hp]
              rw [if_neg]
              · exact hf
              · simp only [hn.1, hsz, ne_eq, not_true_eq_false, decide_false, Bool.false_or, decide_eq_true_eq]
                have := hn.1
                omega
            · cases h
          · cases h
        · cases h
      · cases h
    · cases h

def avcs : List Value → Option (List AV)
  | [] => some []
  | v :: l => match avc v with
    | some u => match avcs l with
      | some r => some (u :: r)
      | none => none
    | none => none

theorem avcs_sound {w : World} {M : Nat → Prop} {bs : Nat → Option Hd} : ∀ (l : List Value) (cs : List AV), avcs l = some cs → CellsV w M bs l.toArray cs
  | [], cs, h => by simp only [avcs, Option.some.injEq] at h; subst h; exact ⟨rfl, fun j x hx => by simp at hx, fun j x y hx => by simp at hx⟩
  | v :: l, cs, h => by
    simp only [avcs] at h
    split at h
    · rename_i u hu
      split at h
      · rename_i r hr
        simp only [Option.some.injEq] at h
        subst h
        obtain ⟨h1, h2, h3⟩ := avcs_sound (w := w) (M := M) (bs := bs) l r hr
        refine ⟨by simpa using h1, fun j x hx => ?_, fun j x y hx hy => ?_⟩
        · cases j with
          | zero => simp at hx; subst hx; exact avc_one hu
          | succ j => exact h2 j x (by simpa using hx)
        · cases j with
          | zero => simp at hx hy; subst hx; subst hy; exact avc_sound hu
          | succ j => exact h3 j x y (by simpa using hx) (by simpa using hy)
      · cases h
    · cases h

/-- The cells of a type's zero value. -/
def zeroA (te : TE) (t : TypeId) : Option (List AV) := match lk te t with
  | some ti => avcs ti.zero.cells.toList
  | none => none

def placesA (te : TE) : List Field → Option (List (Nat × Nat))
  | [] => some []
  | f :: fs => match lk te f.type with
    | some ti => match placesA te fs with
      | some r => some ((f.offset, ti.sz) :: r)
      | none => none
    | none => none

theorem run_places {P : Program} {te : TE} (hte : TE.ok P te) (w : World) : ∀ (fs : List Field) (r : List (Nat × Nat)), placesA te fs = some r →
    (fs.mapM fun f => do pure (f.offset, ← sizeOf f.type) : Sem (List (Nat × Nat))).run P w = .ok r w
  | [], r, h => by simp only [placesA, Option.some.injEq] at h; subst h; rfl
  | f :: fs, r, h => by
    simp only [placesA] at h
    split at h
    · rename_i ti hti
      split at h
      · rename_i r' hr
        simp only [Option.some.injEq] at h
        subst h
        have := run_places hte w fs r' hr
        simp only [bind_pure_comp] at this
        simp [List.mapM_cons, run_size hte hti, this]
      · cases h
    · cases h

def buildA (te : TE) (T : Nat → Option AV) (t : TypeId) (parts : List (Nat × Operand)) : Option AV :=
  match lk te t with
  | some ti => match avcs ti.zero.cells.toList with
    | some z => match ti.desc with
      | .struct fs => match placesA te fs.toList with
        | some pl => match fillA T (fun i => pl[i]?) z parts with
          | some cs => some (.agg cs)
          | none => none
        | none => none
      | .array _ e => match lk te e with
        | some te' => match fillA T (fun i => some (i * te'.sz, te'.sz)) z parts with
          | some cs => some (.agg cs)
          | none => none
        | none => none
      | _ => none
    | none => none
  | none => none

theorem buildA_sound {P : Program} {te : TE} (hte : TE.ok P te) {w : World} {M : Nat → Prop} {bs : Nat → Option Hd} {N : Nat} {T : Nat → Option AV} {a : Act} (hF : FRep w M bs N T a) {t : TypeId} {parts : Array (Nat × Operand)} {u : AV}
    (h : buildA te T t parts.toList = some u) : ∃ v, (Instr.build t (parts.map fun (i, x) => (i, a.eval x))).run P w = .ok v w ∧ V w M bs v u := by
  unfold buildA at h
  split at h
  · rename_i ti hti
    have hz := run_zero hte (w := w) hti
    have hu := run_und hte (w := w) hti
    split at h
    · rename_i z hzz
      have hc : CellsV w M bs ti.zero.cells z := by simpa using avcs_sound (w := w) (M := M) (bs := bs) _ _ hzz
      split at h
      · rename_i fs hd
        rw [hd] at hu
        split at h
        · rename_i pl hpl
          split at h
          · rename_i cs hcs
            simp only [Option.some.injEq] at h
            subst h
            obtain ⟨vs, hv, hV⟩ := fillA_sound hF _ _ _ _ hc hcs
            refine ⟨.agg vs, ?_, .agg hV.1 hV.2.1 hV.2.2⟩
            have hp : (fs.mapM fun f => do pure (f.offset, ← sizeOf f.type) : Sem (Array (Nat × Nat))).run P w = .ok pl.toArray w := by
              have := run_places hte w _ _ hpl
              rw [Array.mapM_eq_mapM_toList]
              simp only [Sem.run_map, this, Result.andThen_ok]
            simp only [bind_pure_comp] at hp
            simp [Instr.build, hz, hu, hp, hv]
          · cases h
        · cases h
      · rename_i n e hd
        rw [hd] at hu
        split at h
        · rename_i te' hte'
          split at h
          · rename_i cs hcs
            simp only [Option.some.injEq] at h
            subst h
            obtain ⟨vs, hv, hV⟩ := fillA_sound hF _ _ _ _ hc hcs
            refine ⟨.agg vs, ?_, .agg hV.1 hV.2.1 hV.2.2⟩
            simp [Instr.build, hz, hu, run_size hte (w := w) hte', hv]
          · cases h
        · cases h
      · cases h
    · cases h
  · cases h

end Go.Eng
/- The engine, part 7: all operations that write nothing, in one function. -/
namespace Go.Eng

def isC : Operand → Bool
  | .const _ => true
  | _ => false

def guardA : AV → AV → Operand → Bool
  | .int _ _, _, _ => true
  | .str _, _, _ => true
  | .bool _, _, _ => true
  | .ptr _ _, _, _ => true
  | .iface _ _, _, _ => true
  | .nilIface, .nilIface, y => isC y
  | .nilIface, .iface _ _, _ => true
  | .view _ _ _, _, _ => true
  | .own _ _, _, _ => true
  | .nil, _, _ => true
  | .map _, _, _ => true
  | .nilmap, _, _ => true
  | .nilptr, _, _ => true
  | _, _, _ => false

def opA (te : TE) (op : BinOp) (t : TypeId) (y : Operand) (a b : AV) : Option (AV × Prop) :=
  match lk te t with
  | some ti => match a, b with
    | .agg xs, .agg ys => match isAggD ti.desc && ti.cmp with
      | true => match op, eqA te 8 t xs ys with
        | .eql, some r => some (.bool r, True)
        | .neq, some r => some (.bool (!r), True)
        | _, _ => none
      | false => none
    | a, b => match guardA a b y with
      | true => binA ti.desc op a b
      | false => none
  | none => none

theorem eqGuard_run {P : Program} {w : World} {M : Nat → Prop} {bs : Nat → Option Hd} {op : BinOp} {t : TypeId} {x y : Operand} {v u : Value} {a b : AV} (hv : V w M bs v a) (hu : V w M bs u b) (h : guardA a b y = true) :
    (eqGuard op t x y v u).run P w = .ok () w := by
  unfold guardA at h
  split at h
  · cases hv; simp [go_sem]
  · cases hv; simp [go_sem]
  · cases hv; simp [go_sem]
  · cases hv; simp [go_sem]
  · cases hv; simp [go_sem]
  · cases hv; cases hu
    cases y with
    | const c => simp [go_sem]
    | _ => simp [isC] at h
  · cases hv; cases hu; simp [go_sem]
  · cases hv; simp [go_sem]
  · cases hv <;> simp [go_sem]
  · cases hv; simp [go_sem]
  · cases hv; simp [go_sem]
  · cases hv; simp [go_sem]
  · cases hv; simp [go_sem]
  · cases h

theorem opA_sound {P : Program} {te : TE} (hte : TE.ok P te) (hn : ∀ t ti, lk te t = some ti → isAggD ti.desc = false → ti.sz = 1) {w : World} {M : Nat → Prop} {bs : Nat → Option Hd} {op : BinOp} {t : TypeId} {x y : Operand} {v u : Value} {a b r : AV} {vc : Prop}
    (hv : V w M bs v a) (hu : V w M bs u b) (h : opA te op t y a b = some (r, vc)) (hvc : vc) :
    ∃ z, (do eqGuard op t x y v u; binOp op t v u : Sem Value).run P w = .ok z w ∧ V w M bs z r := by
  unfold opA at h
  split at h
  · rename_i ti hti
    split at h
    · rename_i xs ys
      split at h
      · rename_i hc
        simp only [Bool.and_eq_true] at hc
        obtain ⟨hagg, hc⟩ := hc
        obtain ⟨hund, _, hcmp⟩ := hte t ti hti
        obtain ⟨hp, hg, _⟩ := hcmp hc
        cases hv with
        | agg l1 o1 V1 =>
          cases hu with
          | agg l2 o2 V2 =>
            rename_i vs us
            have key : ∀ r', eqA te 8 t xs ys = some r' → (Op.equalIn 10000 t (.agg vs) (.agg us)).run P w = .ok r' w := fun r' hr =>
              eqA_sound hte hn 8 9992 t ti _ _ _ _ r' hti (by rw [hagg]; exact ⟨vs, rfl, l1, o1, V1⟩) (by rw [hagg]; exact ⟨us, rfl, l2, o2, V2⟩) hr
            split at h
            · rename_i r' hr
              simp only [Option.some.injEq, Prod.mk.injEq] at h
              obtain ⟨rfl, rfl⟩ := h
              exact ⟨.bool r', by simp only [Sem.run_bind, run_eqGuard_agg w _ _ _ _ _ _ hg, Result.andThen_ok, run_eql_struct, key _ hr], .bool⟩
            · rename_i r' hr
              simp only [Option.some.injEq, Prod.mk.injEq] at h
              obtain ⟨rfl, rfl⟩ := h
              exact ⟨.bool (!r'), by simp only [Sem.run_bind, run_eqGuard_agg w _ _ _ _ _ _ hg, Result.andThen_ok, run_neq_struct, key _ hr], .bool⟩
            · cases h
      · cases h
    · split at h
      · rename_i hg
        obtain ⟨z, hz, hV⟩ := binA_sound hte hti hv hu h hvc
        exact ⟨z, by simp only [Sem.run_bind, eqGuard_run hv hu hg, Result.andThen_ok, hz], hV⟩
      · cases h
  · cases h


def pickA (cb : Bool) : AV → AV → Option AV
  | .bool x, .bool y => some (.bool (cond cb x y))
  | a, b => match cb with
    | true => some a
    | false => some b

theorem pickA_sound {w : World} {M : Nat → Prop} {bs : Nat → Option Hd} {cb : Bool} {x y : Value} {a b u : AV} (hx : V w M bs x a) (hy : V w M bs y b) (h : pickA cb a b = some u) : V w M bs (if cb then x else y) u := by
  unfold pickA at h
  split at h
  · simp only [Option.some.injEq] at h
    subst h
    cases hx; cases hy
    cases cb <;> exact .bool
  · cases cb <;> simp only [Option.some.injEq] at h <;> subst h
    · exact hy
    · exact hx

def evL (T : Nat → Option AV) : List Operand → Option (List AV)
  | [] => some []
  | x :: l => match evO T x with
    | some u => match evL T l with
      | some r => some (u :: r)
      | none => none
    | none => none

theorem evL_sound {w : World} {M : Nat → Prop} {bs : Nat → Option Hd} {N : Nat} {T : Nat → Option AV} {a : Act} (hF : FRep w M bs N T a) : ∀ (l : List Operand) (r : List AV), evL T l = some r →
    (l.map a.eval).length = r.length ∧ ∀ (j : Nat) v u, (l.map a.eval)[j]? = some v → r[j]? = some u → V w M bs v u
  | [], r, h => by simp only [evL, Option.some.injEq] at h; subst h; exact ⟨rfl, fun j v u h => by simp at h⟩
  | x :: l, r, h => by
    simp only [evL] at h
    split at h
    · rename_i u hu
      split at h
      · rename_i r' hr
        simp only [Option.some.injEq] at h
        subst h
        obtain ⟨h1, h2⟩ := evL_sound hF l r' hr
        refine ⟨by simpa using h1, fun j v u hv hu' => ?_⟩
        cases j with
        | zero => simp at hv hu'; subst hv; subst hu'; exact evO_sound hF hu
        | succ j => exact h2 j v u (by simpa using hv) (by simpa using hu')
      · cases h
    · cases h

def loadA (te : TE) (O : Nat → Option AObj) (t : TypeId) (u : AV) : Option (AV × Prop) :=
  match lk te t with
  | some ti => match ptrCells O u with
    | some (g, vc) => match isAggD ti.desc with
      | true => match takeN ti.sz g with
        | some cs => some (.agg cs, vc)
        | none => none
      | false => match g with
        | x :: _ => some (x, vc)
        | [] => none
    | none => none
  | none => none

theorem loadA_sound {C : Ctx} {te : TE} (hte : TE.ok C.P te) (hn : ∀ t ti, lk te t = some ti → isAggD ti.desc = false → ti.sz = 1) {E : Ent} {O : Nat → Option AObj} {bs : Nat → Option Hd} {w : World} (hW : WRep C E O bs w) {t : TypeId} {x : Value} {a u : AV} {vc : Prop}
    (hx : V w (MB E O bs) bs x a) (h : loadA te O t a = some (u, vc)) (hvc : vc) : ∃ v, (Instr.loadAt t x).run C.P w = .ok v w ∧ V w (MB E O bs) bs v u := by
  unfold loadA at h
  split at h
  · rename_i ti hti
    split at h
    · rename_i g vc' hg
      have hP : vc' → PCells w (MB E O bs) bs x g := fun hh => ptrCells_sound hW hx hg hh
      split at h
      · rename_i hd
        split at h
        · rename_i cs hcs
          simp only [Option.some.injEq, Prod.mk.injEq] at h
          obtain ⟨rfl, rfl⟩ := h
          obtain ⟨ad, cv, rfl, hc, h1, hV⟩ := hP hvc
          obtain ⟨hl, rfl⟩ := takeN_eq hcs
          have := run_loadVar hte hti (w := w) (a := ad) (cv := cv) (fun j hj => hc j (by omega)) (hn _ _ hti)
          rw [hd] at this
          refine ⟨_, by simpa [Instr.loadAt, Instr.sureAddr] using this, .agg ?_ (fun j v hv => ?_) (fun j v u hv hu => ?_)⟩
          · simp; omega
          · simp only [List.getElem?_toArray, List.getElem?_map] at hv
            rcases Nat.lt_or_ge j ti.sz with hj | hj
            · simp [hj] at hv; subst hv; exact h1 j (by omega)
            · simp [show ¬ j < ti.sz by omega] at hv
          · simp only [List.getElem?_toArray, List.getElem?_map] at hv
            rw [List.getElem?_take] at hu
            split at hu
            · rename_i hj
              simp [hj] at hv; subst hv; exact hV j u hu
            · cases hu
        · cases h
      · rename_i hd
        split at h
        · rename_i y l
          simp only [Option.some.injEq, Prod.mk.injEq] at h
          obtain ⟨rfl, rfl⟩ := h
          obtain ⟨ad, cv, rfl, hc, h1, hV⟩ := hP hvc
          have := run_loadVar hte hti (w := w) (a := ad) (cv := cv) (fun j hj => hc j (by rw [hn _ _ hti hd] at hj; simp; omega)) (hn _ _ hti)
          rw [hd] at this
          exact ⟨_, by simpa [Instr.loadAt, Instr.sureAddr] using this, hV 0 _ rfl⟩
        · cases h
    · cases h
  · cases h

def convA (te : TE) (src dst : TypeId) (u : AV) : Option (AV × Prop) :=
  match lk te src, lk te dst with
  | some _, some td => match u with
    | .int k n => match td.desc with
      | .int k' => match k, k' with
        | .i64, .u64 => some (.int .u64 (IntKind.u64.wrap n), True)
        | .u64, .u32 => some (.int .u32 (IntKind.u32.wrap n), True)
        | _, k' => some (.int k' n, inR k' n)
      | _ => none
    | .str s => match td.desc with
      | .string => some (.str s, True)
      | _ => none
    | _ => none
  | _, _ => none

theorem convA_sound {P : Program} {te : TE} (hte : TE.ok P te) {w : World} {M : Nat → Prop} {bs : Nat → Option Hd} {src dst : TypeId} {x : Value} {a u : AV} {vc : Prop} (hx : V w M bs x a) (h : convA te src dst a = some (u, vc)) (hvc : vc) :
    ∃ v, (convert src dst x).run P w = .ok v w ∧ V w M bs v u := by
  unfold convA at h
  split at h
  · rename_i ts td hts htd
    have h1 := run_und hte (w := w) hts
    have h2 := run_und hte (w := w) htd
    split at h
    · rename_i k n
      cases hx
      split at h
      · rename_i k' hd
        rw [hd] at h2
        have key : (convert src dst (.int k n)).run P w = .ok (.int k' (k'.wrap n)) w := by simp [convert, h1, h2, Conv.intToInt]
        split at h <;> simp only [Option.some.injEq, Prod.mk.injEq] at h <;> obtain ⟨rfl, rfl⟩ := h
        · exact ⟨_, key, .int⟩
        · exact ⟨_, key, .int⟩
        · rw [wrap_in hvc] at key
          exact ⟨_, key, .int⟩
      · cases h
    · rename_i s
      split at h
      · rename_i hd
        rw [hd] at h2
        simp only [Option.some.injEq, Prod.mk.injEq] at h
        obtain ⟨rfl, rfl⟩ := h
        have hx' := hx
        cases hx with
        | str hs =>
          rename_i b
          refine ⟨.string b, ?_, hx'⟩
          simp [convert, h1, h2]
      · cases h
    · cases h
  · cases h

def lenA (te : TE) (t : TypeId) (u : AV) : Option AV :=
  match lk te t with
  | some ti => match ti.desc, u with
    | .string, .str s => some (.int .i64 s.length)
    | .slice _, .view _ n _ => some (.int .i64 n)
    | .slice _, .own _ n => some (.int .i64 n)
    | .slice _, .sub _ _ _ n => some (.int .i64 n)
    | .slice _, .nil => some (.int .i64 0)
    | .slice _, .empty => some (.int .i64 0)
    | .array n _, _ => some (.int .i64 n)
    | _, _ => none
  | none => none

theorem lenA_sound {P : Program} {te : TE} (hte : TE.ok P te) {w : World} {M : Nat → Prop} {bs : Nat → Option Hd} {t ty : TypeId} {x : Value} {a u : AV} (hx : V w M bs x a) (h : lenA te t a = some u) :
    ∃ v, (Builtin.len_ #[t] ty #[x]).run P w = .ok v w ∧ V w M bs v u := by
  unfold lenA at h
  split at h
  · rename_i ti hti
    have hu := run_und hte (w := w) hti
    split at h <;> simp only [Option.some.injEq, reduceCtorEq] at h <;> subst h <;> rename_i hd <;> rw [hd] at hu
    · cases hx with
      | str hs =>
        rename_i l b
        refine ⟨.int .i64 b.size, by simp [Builtin.len_, hu, goInt], ?_⟩
        rw [show (b.size : Int) = (b.data.toList.length : Nat) by simp, hs]
        exact .int
    · cases hx; exact ⟨_, by simp [Builtin.len_, hu]; rfl, .int⟩
    · cases hx with
      | own => exact ⟨_, by simp [Builtin.len_, hu]; rfl, .int⟩
      | ownnil hb hn => subst hn; exact ⟨_, by simp [Builtin.len_, hu]; rfl, .int⟩
    · cases hx with
      | sub => exact ⟨_, by simp [Builtin.len_, hu]; rfl, .int⟩
      | subnil hb hn ho => subst hn; exact ⟨_, by simp [Builtin.len_, hu]; rfl, .int⟩
    · cases hx; exact ⟨_, by simp [Builtin.len_, hu]; rfl, .int⟩
    · cases hx; exact ⟨_, by simp [Builtin.len_, hu]; rfl, .int⟩
    · exact ⟨_, by simp [Builtin.len_, hu]; rfl, .int⟩
  · cases h

end Go.Eng
