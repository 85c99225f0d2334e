/- Lemmas that the tied card of ProductCatalogs is proved by. -/
import Derived.Test.YtnjaabibmgdeoaaDoorCm
import Derived.Test.YtnjaabibmgdeoaaDoorCk
/- The validation of products: the loops' states. -/
namespace Go.Eng

def seenM (nm : Nat → List UInt8) : Nat → List (AV × AV)
  | 0 => []
  | k + 1 => seenM nm k ++ [(.str (nm k), .bool true)]
def S_va (n : Nat) (nm vl : Nat → List UInt8) (k : Nat) : St := ⟨[(3, .map 1), (33, .own 0 n), (34, .int .i64 n), (35, .int .i64 k)], [(0, .row 52 2 n (atRow nm vl) false), (1, .amap (seenM nm k))], 2, []⟩
def L_va (n : Nat) (nm vl : Nat → List UInt8) : LSpec := fun st Q => canonIs te 1 [3, 33, 34, 35] st (S_va n nm vl 0) ∧ n ≤ 12 ∧ (∀ i, i < n → (nm i).length < 4294967281 ∧ (vl i).length < 4294967281) ∧
  condP (atsOK nm vl n) (Q (.exit 1) ⟨[], [(0, .row 52 2 n (atRow nm vl) false)], 1, []⟩) (Q .ret ⟨[(2, .int .i64 94)], [(0, .row 52 2 n (atRow nm vl) false)], 1, []⟩)

theorem mget_seen (nm : Nat → List UInt8) (x : List UInt8) : ∀ j, mget (seenM nm j) (.str x) = bif (List.range j).any (fun i => decide (nm i = x)) then some (.bool true) else none
  | 0 => rfl
  | j + 1 => by
    have app : ∀ (l : List (AV × AV)) (k : AV) (p : AV × AV), mget (l ++ [p]) k = (mget l k).or (bif keq p.1 k then some p.2 else none) := by
      intro l k p
      induction l with
      | nil => simp only [List.nil_append, mget]; cases keq p.1 k <;> rfl
      | cons q l ih =>
        simp only [List.cons_append, mget]
        cases keq q.1 k with
        | true => rfl
        | false => exact ih
    rw [seenM, app, mget_seen nm x j, List.range_succ, List.any_append]
    simp only [List.any_cons, List.any_nil, Bool.or_false, keq]
    cases (List.range j).any (fun i => decide (nm i = x)) <;> cases decide (nm j = x) <;> rfl
theorem fresh_any (nm : Nat → List UInt8) (k : Nat) : ∀ j, freshAt nm j k = !(List.range j).any (fun i => decide (nm i = nm k))
  | 0 => rfl
  | j + 1 => by
    rw [freshAt, fresh_any nm k j, List.range_succ, List.any_append]
    simp only [List.any_cons, List.any_nil, Bool.or_false, Bool.not_or]
    congr 2
    simp only [eq_comm]
theorem mset_fresh (nm : Nat → List UInt8) (x : List UInt8) (v : AV) : ∀ j, (List.range j).any (fun i => decide (nm i = x)) = false → mset (seenM nm j) (.str x) v = seenM nm j ++ [(.str x, v)] := by
  have app : ∀ (l : List (AV × AV)) (k v : AV), (∀ p ∈ l, keq p.1 k = false) → mset l k v = l ++ [(k, v)] := by
    intro l k v h
    induction l with
    | nil => rfl
    | cons q l ih =>
      simp only [List.cons_append, mset]
      rw [h q (List.mem_cons_self ..), ih (fun p hp => h p (List.mem_cons_of_mem _ hp))]
  intro j hj
  apply app
  induction j with
  | zero => intro p hp; cases hp
  | succ j ih =>
    rw [List.range_succ, List.any_append, Bool.or_eq_false_iff] at hj
    intro p hp
    rw [seenM, List.mem_append] at hp
    rcases hp with hp | hp
    · exact ih hj.1 p hp
    · obtain rfl := List.mem_singleton.1 hp
      simpa [keq] using hj.2
theorem seen_keys (nm vl : Nat → List UInt8) : ∀ k, atsOK nm vl k = true → KeysOK .string (seenM nm k)
  | 0, _ => ⟨rfl, List.nodup_nil⟩
  | k + 1, h => by
    rw [atsOK, Bool.and_eq_true] at h
    obtain ⟨h1, h2⟩ := seen_keys nm vl k h.1
    have hf : freshAt nm k k = true := by
      have := h.2
      unfold atOK at this
      rw [Bool.and_eq_true] at this
      exact this.2
    rw [fresh_any, Bool.not_eq_true'] at hf
    have hmem : ∀ j, (List.range j).any (fun i => decide (nm i = nm k)) = false → AV.str (nm k) ∉ (seenM nm j).map Prod.fst := by
      intro j
      induction j with
      | zero => intro _ hm; cases hm
      | succ j ih =>
        intro hj hm
        rw [List.range_succ, List.any_append, Bool.or_eq_false_iff] at hj
        rw [seenM, List.map_append, List.mem_append] at hm
        rcases hm with hm | hm
        · exact ih hj.1 hm
        · have := List.mem_singleton.1 hm
          injection this with this
          have hj2 := hj.2
          simp [this.symm] at hj2
    refine ⟨?_, ?_⟩
    · rw [seenM, List.all_append, h1]; rfl
    · rw [seenM, List.map_append, List.nodup_append]
      refine ⟨h2, by simp, ?_⟩
      intro a ha b hb hab
      obtain rfl := List.mem_singleton.1 hb
      subst hab
      exact hmem k hf ha
theorem seen_rn (σ : Nat → Option Nat) (nm : Nat → List UInt8) : ∀ k, (seenM nm k).map (fun p => (p.1.rn σ, p.2.rn σ)) = seenM nm k
  | 0 => rfl
  | k + 1 => by rw [seenM, List.map_append, seen_rn σ nm k]; rfl

end Go.Eng
/- The validation of products whose attributes are plain data: the loops' states. -/
namespace Go.Eng

def S_valV : Spec
  | [.agg [.str id, .str code, .str brand, .int .i64 d, .int .i64 c, .int .i64 a, .view 2 n f]], [] => some (.int .i64 (valF id code brand d c a n (nmOf f) (vlOf f)), [],
      n ≤ 4294967281 ∧ code.length < 4294967281 ∧ brand.length < 4294967281 ∧ (∀ i, i < n → (nmOf f i).length < 4294967281 ∧ (vlOf f i).length < 4294967281) ∧ f = atRow (nmOf f) (vlOf f))
  | _, _ => none
def S_vw (n : Nat) (nm vl : Nat → List UInt8) (k : Nat) : St := ⟨[(3, .map 0), (33, .view 2 n (atRow nm vl)), (34, .int .i64 n), (35, .int .i64 k)], [(0, .amap (seenM nm k))], 1, []⟩
def L_vw (n : Nat) (nm vl : Nat → List UInt8) : LSpec := fun st Q => canonIs te 0 [3, 33, 34, 35] st (S_vw n nm vl 0) ∧ n ≤ 12 ∧ (∀ i, i < n → (nm i).length < 4294967281 ∧ (vl i).length < 4294967281) ∧
  condP (atsOK nm vl n) (Q (.exit 1) ⟨[], [], 0, []⟩) (Q .ret ⟨[(2, .int .i64 94)], [], 0, []⟩)
structure PW where
  id : List UInt8
  code : List UInt8
  brand : List UInt8
  d : Int
  c : Int
  a : Int
def S_wr (p : PW) (n : Nat) (nm vl : Nat → List UInt8) (k : Nat) : St := ⟨[(1, .ptr 0 0), (28, .view 2 n (atRow nm vl)), (29, .int .i64 n), (30, .int .i64 k)], [(0, .cells [.str p.id, .str p.code, .str p.brand, .int .i64 p.d, .int .i64 p.c, .int .i64 p.a, .view 2 n (atRow nm vl)] 26)], 1, []⟩
def S_wi (p : PW) (n : Nat) (nm vl : Nat → List UInt8) (k j : Nat) : St := ⟨[(1, .ptr 0 0), (4, .ptr 1 0), (28, .view 2 n (atRow nm vl)), (29, .int .i64 n), (30, .int .i64 k), (48, .view 2 k (atRow nm vl)), (49, .int .i64 k), (50, .int .i64 j)], [(0, .cells [.str p.id, .str p.code, .str p.brand, .int .i64 p.d, .int .i64 p.c, .int .i64 p.a, .view 2 n (atRow nm vl)] 26), (1, .cells [.str (nm k), .str (vl k)] 52)], 2, []⟩
def L_wi (p : PW) (n : Nat) (nm vl : Nat → List UInt8) (k : Nat) : LSpec := fun st Q => canonIs te 0 [1, 4, 28, 29, 30, 48, 49, 50] st (S_wi p n nm vl k 0) ∧ k < n ∧ n ≤ 12 ∧
  condP (freshAt nm k k) (Q (.exit 2) (S_wr p n nm vl k)) (Q .ret ⟨[(2, .int .i64 94)], [], 0, []⟩)
def L_wr (p : PW) (n : Nat) (nm vl : Nat → List UInt8) : LSpec := fun st Q => canonIs te 0 [1, 28, 29, 30] st (S_wr p n nm vl 0) ∧ n ≤ 12 ∧ (∀ i, i < n → (nm i).length < 4294967281 ∧ (vl i).length < 4294967281) ∧
  condP (atsOK nm vl n) (Q (.exit 0) ⟨[], [], 0, []⟩) (Q .ret ⟨[(2, .int .i64 94)], [], 0, []⟩)
end Go.Eng
/- A row of the answer that nobody writes any more, told as plain data. -/
namespace Go.Eng

theorem lk_rmv {α : Type} (d : Nat) : ∀ (l : List (Nat × α)) (i : Nat) (u : α), lk (rm d l) i = some u → d ≠ i ∧ lk l i = some u
  | [], i, u, h => by cases h
  | (j, x) :: l, i, u, h => by
    simp only [rm] at h
    split at h
    · rename_i e
      have e := Nat.eq_of_beq_eq_true e
      obtain ⟨h1, h2⟩ := lk_rmv d l i u h
      refine ⟨h1, ?_⟩
      rw [lk_cons]
      have : ¬ j = i := fun q => h1 (e.symm.trans q)
      simp only [this, if_false]; exact h2
    · rename_i e
      rw [lk_cons] at h ⊢
      have hjd : ¬ j = d := fun q => by subst q; rw [Nat.beq_refl] at e; cases e
      by_cases q : j = i
      · simp only [q, if_true] at h ⊢
        exact ⟨fun q' => hjd (q.trans q'.symm), h⟩
      · simp only [q, if_false] at h ⊢
        exact lk_rmv d l i u h

/-- The answer with the row r told as data. -/
def frzA (r sz n : Nat) (f : Nat → List AV) : AV → AV
  | .agg cs => .agg (cs.map (frz r sz n f))
  | u => frz r sz n f u
def frzC (r sz n : Nat) (f : Nat → List AV) : AV → AV
  | .tuple cs => .tuple (cs.map (frzA r sz n f))
  | u => frzA r sz n f u

section
variable {C : Ctx} {E : Ent} {O : Nat → Option AObj} {bs : Nat → Option Hd} {w : World} {r : Nat} {t : TypeId} {sz n : Nat} {f : Nat → List AV}

theorem V.frz (hW : WRep C E O bs w) (hr0 : O r = some (.row t sz n f true)) (hf : ∀ i, i < n → nrefL (f i) = true) : ∀ {v u}, V w (MB E O bs) bs v u → V w (MB E O bs) bs v (Eng.frz r sz n f u) := by
  have hrow := hW.obj r _ hr0
  intro v u hV
  cases u with
  | own r' n' =>
    simp only [Eng.frz]
    split
    · rename_i hc
      simp only [Bool.and_eq_true] at hc
      have hr := Nat.eq_of_beq_eq_true hc.1
      have hn' : n' ≤ n := Nat.le_of_ble_eq_true hc.2
      subst hr
      cases hV with
      | own hb hn hcm =>
        rename_i b c
        rcases hrow with ⟨h1, _⟩ | ⟨b', c', vs, h1, h2, h3, h4, h5, h6, h7, h8⟩
        · rw [h1] at hb; cases hb
        · rw [h1] at hb
          injection hb with hb
          injection hb with e1 e2
          subst e1; subst e2
          have hlt : b' < w.heap.size := (Array.getElem?_eq_some_iff.1 h2).1
          have inb : ∀ i, i < n' → ∀ j, j < sz → i * sz + j < vs.size := by
            intro i hi j hj
            rw [h5]
            have : (i + 1) * sz ≤ c' * sz := Nat.mul_le_mul_right sz (by omega)
            rw [Nat.add_mul, Nat.one_mul] at this
            omega
          refine .view ⟨b', 0, none⟩ (fun i j => vs.getD (i * sz + j) undef) hn hcm (fun _ => ⟨rfl, hW.frz _ t sz n f _ _ hr0 h1, hlt⟩) (fun i hi => h6 i (by omega)) (fun i hi j hj => ?_) (fun i hi j hj => ?_) fun i hi j u hu => ?_
          · have := inb i hi j hj
            rw [Addr.add_lit, Nat.zero_add, cell_of_row w b' (i * sz + j) vs t (0, 0) h2]
            simp [this]
          · have := inb i hi j hj
            exact h7 i (by omega) j hj _ (by simp [this])
          · have hj : j < sz := by rw [← h6 i (by omega)]; exact (List.getElem?_eq_some_iff.1 hu).1
            have := inb i hi j hj
            exact (h8 i (by omega) j _ u hj (by simp [this]) hu).free (fun _ _ h => h) (fun _ _ _ => rfl) (Nat.le_refl _) nob (nrefL_get (hf i (by omega)) j u hu)
      | ownnil hb hn =>
        subst hn
        exact .view ⟨0, 0, none⟩ (fun _ _ => undef) (Nat.le_refl _) (Nat.zero_le _) (fun h => by omega) (fun i hi => by omega) (fun i hi => by omega) (fun i hi => by omega) (fun i hi => by omega)
    · exact hV
  | _ => exact hV

theorem V.frzA (hW : WRep C E O bs w) (hr0 : O r = some (.row t sz n f true)) (hf : ∀ i, i < n → nrefL (f i) = true) {v : Value} {u : AV} (h : V w (MB E O bs) bs v u) : V w (MB E O bs) bs v (Eng.frzA r sz n f u) := by
  cases u with
  | agg cs =>
    cases h with
    | agg hl h1 hv =>
      refine .agg (by rw [List.length_map]; exact hl) h1 fun j v u hj hu => ?_
      rw [List.getElem?_map] at hu
      obtain ⟨u0, hu0, rfl⟩ := Option.map_eq_some_iff.1 hu
      exact V.frz hW hr0 hf (hv j v u0 hj hu0)
  | _ => exact V.frz hW hr0 hf h
theorem V.frzC (hW : WRep C E O bs w) (hr0 : O r = some (.row t sz n f true)) (hf : ∀ i, i < n → nrefL (f i) = true) {v : Value} {u : AV} (h : V w (MB E O bs) bs v u) : V w (MB E O bs) bs v (Eng.frzC r sz n f u) := by
  cases u with
  | tuple cs =>
    cases h with
    | tuple hl hv =>
      refine .tuple (by rw [List.length_map]; exact hl) fun j v u hj hu => ?_
      rw [List.getElem?_map] at hu
      obtain ⟨u0, hu0, rfl⟩ := Option.map_eq_some_iff.1 hu
      exact V.frzA hW hr0 hf (hv j v u0 hj hu0)
  | _ => exact V.frzA hW hr0 hf h

/-- Objects forgotten. -/
theorem WRep.less {O' : Nat → Option AObj} (hW : WRep C E O bs w) (hO : ∀ k o, O' k = some o → O k = some o) : Step w (MB E O bs) bs w (MB E O' bs) bs ∧ WRep C E O' bs w := by
  have hmb : ∀ b, mutB O' bs b → mutB O bs b := fun b ⟨r, o, c, h1, h2, h3⟩ => ⟨r, o, c, hO r o h1, h2, h3⟩
  have hMB : ∀ b, MB E O' bs b → MB E O bs b := fun b hb => hb.imp id (hmb b)
  have hS : Step w (MB E O bs) bs w (MB E O' bs) bs := ⟨fun _ _ h => h, fun b _ hb hb' => hb (hMB b hb'), fun _ _ _ => rfl, Nat.le_refl _⟩
  exact ⟨hS, {
    obj := fun r o ho => (hW.obj r o (hO r o ho)).step hS fun _ _ _ => rfl
    sep := fun r r' o1 o2 b c c' h1 h2 m1 m2 b1 b2 => hW.sep r r' o1 o2 b c c' (hO _ _ h1) (hO _ _ h2) m1 m2 b1 b2
    out := fun b hb => hW.out b (hmb b hb)
    frz := fun r t' sz' n f b c ho hb hM => hW.frz r t' sz' n f b c (hO _ _ ho) hb (hMB b hM)
    high := fun b hb => hW.high b (hMB b hb)
    lt := hW.lt
    outlt := hW.outlt
    keep := hW.keep
    old := fun b hb => hW.old b (hmb b hb)
    size := hW.size
    pre := hW.pre
    os := hW.os
    tape := hW.tape
    output := hW.output
    laid := hW.laid
    gle := hW.gle }⟩
end

/-- A row of the answer told as data: 'R' asks for that. -/
def frzR (r : Nat) (R : AV → List (Nat × AObj) → Prop) (u : AV) (O : List (Nat × AObj)) : Prop :=
  ∃ t sz n g fr, lk O r = some (.row t sz n g fr) ∧ (∀ i, i < n → nrefL (g i) = true) ∧ R (frzC r sz n g u) (rm r O)

theorem ACalls.frz {C : Ctx} {f : FuncId} {args : List AV} {objs : List AObj} {R : AV → List (Nat × AObj) → Prop} (r : Nat) (h : ACalls C f args objs (frzR r R)) : ACalls C f args objs R := by
  refine ⟨h.1, fun E bs w cargs h1 h2 h3 h4 h5 h6 h7 => ?_⟩
  refine (h.2 E bs w cargs h1 h2 h3 h4 h5 h6 h7).mono ?_
  rintro e w' ⟨v, u, O', bs', r1, ⟨t, sz, n, g, fr, hO, hg, hR⟩, r3, r4, r5⟩
  obtain ⟨hS, hW1⟩ := r3.freeze hO
  have hV := V.frzC hW1 (up_same _ _ _) hg (r4.step hS)
  obtain ⟨hS2, hW2⟩ := hW1.less (O' := lk (rm r O')) fun k o hk => by
    obtain ⟨q1, q2⟩ := lk_rmv r O' k o hk
    rw [up_other _ _ _ q1]; exact q2
  refine ⟨v, _, rm r O', bs', r1, hR, hW2, hV.step hS2, fun k hk => ⟨?_, (r5 k hk).2⟩⟩
  cases hx : lk (rm r O') k with
  | none => rfl
  | some o =>
    have := (lk_rmv r O' k o hx).2
    rw [(r5 k hk).1] at this; cases this

end Go.Eng
/- Products from a tape, with their attributes told as plain data; rows of products. -/
namespace Go.Eng

structure PR where
  id : List UInt8
  code : List UInt8
  brand : List UInt8
  d : Int
  c : Int
  q : Int
  na : Nat
  nm : Nat → List UInt8
  vl : Nat → List UInt8
  deriving Inhabited
def pdRow (g : Nat → PR) (i : Nat) : List AV := [.str (g i).id, .str (g i).code, .str (g i).brand, .int .i64 (g i).d, .int .i64 (g i).c, .int .i64 (g i).q, .view 2 (g i).na (atRow (g i).nm (g i).vl)]
structure PR.Short (p : PR) : Prop where
  id : p.id.length ≤ 30
  code : p.code.length ≤ 30
  brand : p.brand.length ≤ 30
  na : 2 ≤ p.na ∧ p.na ≤ 14
  at_ : ∀ i, i < p.na → (p.nm i).length ≤ 30 ∧ (p.vl i).length ≤ 30
/-- Item: some product of two attributes, all its texts short. -/
def R_itemV : RSpec
  | [.ptr 0 0, .int .i64 k], [.cells [.view sz n f, .int .i64 a] t], R => t = 31 ∧ sz = 1 ∧ f = intRow (vInt f) ∧ (0 ≤ a ∧ a ≤ 4611686018427387000) ∧
      ∀ (p : PR) (a' : Int), p.Short → a' = a + 5 → p.id = idF k → valF p.id p.code p.brand p.d p.c p.q p.na p.nm p.vl = 0 →
      R (.agg [.str p.id, .str p.code, .str p.brand, .int .i64 p.d, .int .i64 p.c, .int .i64 p.q, .view 2 p.na (atRow p.nm p.vl)]) [(0, .cells [.view 1 n f, .int .i64 a'] 31)]
  | _, _, _ => False
def R_spoiledV : RSpec
  | [.ptr 0 0], [.cells [.view sz n f, .int .i64 a] t], R => t = 31 ∧ sz = 1 ∧ f = intRow (vInt f) ∧ (0 ≤ a ∧ a ≤ 4611686018427380000) ∧
      ∀ (p : PR) (a' : Int), p.Short →
      R (.agg [.str p.id, .str p.code, .str p.brand, .int .i64 p.d, .int .i64 p.c, .int .i64 p.q, .view 2 p.na (atRow p.nm p.vl)]) [(0, .cells [.view 1 n f, .int .i64 a'] 31)]
  | _, _, _ => False
/-- A catalog in the making: how many, which, where the tape stands. -/
structure CatS where
  c : Nat
  g : Nat → PR
  a : Int
def S_cat (n : Nat) (v : Nat → Int) (k N : Int) (i : CatS) : St := ⟨[(0, .ptr 0 0), (1, .int .i64 k), (7, .own 1 i.c), (12, .int .i64 N), (13, .int .i64 i.c)],
  [(0, .cells [.view 1 n (intRow v), .int .i64 i.a] 31), (1, .row 26 7 i.c (pdRow i.g) false)], 2, []⟩
def L_cat (n : Nat) (v : Nat → Int) (a k N : Int) : LSpec := fun st Q => canonIs te 1 [0, 1, 7, 12, 13] (ownNil 7 26 7 st) (S_cat n v k N ⟨0, fun _ => default, a⟩) ∧ (0 ≤ N ∧ N ≤ 100) ∧ (0 ≤ k ∧ k ≤ 100000) ∧ (0 ≤ a ∧ a ≤ 4611686018427386000) ∧
  ∀ i : CatS, i.c = N.toNat → i.a = a + 5 * i.c → (∀ j, j < i.c → (i.g j).Short) → Q (.exit 0) ⟨[(7, .own 1 i.c)], [(0, .cells [.view 1 n (intRow v), .int .i64 i.a] 31), (1, .row 26 7 i.c (pdRow i.g) false)], 2, []⟩
/-- Catalog: some products, all short. -/
def R_catalog : RSpec
  | [.ptr 0 0, .int .i64 k, .int .i64 most], [.cells [.view sz n f, .int .i64 a] t], R => t = 31 ∧ sz = 1 ∧ f = intRow (vInt f) ∧ (0 ≤ a ∧ a ≤ 4611686018427380000) ∧ (0 ≤ k ∧ k ≤ 100000) ∧ (0 ≤ most ∧ most ≤ 90) ∧
      ∀ (c : Nat) (g : Nat → PR) (a' : Int), c ≤ most.toNat → a' = a + 1 + 5 * c → (∀ j, j < c → (g j).Short) →
      R (.own 1 c) [(0, .cells [.view 1 n f, .int .i64 a'] 31), (1, .row 26 7 c (pdRow g) false)]
  | _, _, _ => False
def PR.put (g : Nat → PR) (k : Nat) (p : PR) (i : Nat) : PR := bif decide (i < k) then g i else p
end Go.Eng
/- The validation of catalogs: the loops' states. -/
namespace Go.Eng

def errOf (p : PR) : Int := valF p.id p.code p.brand p.d p.c p.q p.na p.nm p.vl
/-- The first error of the first products. -/
def catE (g : Nat → PR) : Nat → Int
  | 0 => 0
  | k + 1 => bif decide (catE g k = 0) then (bif decide (errOf (g k) = 0) then (bif decide (0 < k) && !Op.bytesLess (g (k - 1)).id (g k).id then 96 else 0) else errOf (g k)) else catE g k
def catF (g : Nat → PR) (n : Nat) : Int := bif decide (200 < n) then 95 else catE g n
def prOf (f : Nat → List AV) (i : Nat) : PR := match f i with
  | [.str id, .str code, .str brand, .int .i64 d, .int .i64 c, .int .i64 q, .view 2 na h] => ⟨id, code, brand, d, c, q, na, nmOf h, vlOf h⟩
  | _ => default
def S_vcat : Spec
  | [.own 0 n], [.row t 7 m f fr] => some (.int .i64 (catF (prOf f) n), [(0, .row 26 7 n f false)], t = 26 ∧ fr = false ∧ n = m ∧ n ≤ 1000 ∧ f = pdRow (prOf f) ∧ ∀ i, i < n → (prOf f i).Short)
  | _, _ => none
def S_vc (g : Nat → PR) (n k : Nat) : St := ⟨[(0, .own 0 n), (9, .own 0 n), (10, .int .i64 n), (11, .int .i64 k)], [(0, .row 26 7 n (pdRow g) false)], 1, []⟩
def L_vc (g : Nat → PR) (n : Nat) : LSpec := fun st Q => canonIs te 1 [0, 9, 10, 11] st (S_vc g n 0) ∧ n ≤ 200 ∧ (∀ i, i < n → (g i).Short) ∧
  condP (decide (catE g n = 0)) (Q (.exit 0) ⟨[], [(0, .row 26 7 n (pdRow g) false)], 1, []⟩) (Q .ret ⟨[(2, .int .i64 (catE g n))], [(0, .row 26 7 n (pdRow g) false)], 1, []⟩)
end Go.Eng
/- A nil slice of the answer, told as data of no element. -/
namespace Go.Eng

def nilv (sz : Nat) (f : Nat → List AV) : AV → AV
  | .nil => .view sz 0 f
  | u => u
def nilvA (sz : Nat) (f : Nat → List AV) : AV → AV
  | .agg cs => .agg (cs.map (nilv sz f))
  | u => nilv sz f u
def nilvC (sz : Nat) (f : Nat → List AV) : AV → AV
  | .tuple cs => .tuple (cs.map (nilvA sz f))
  | u => nilvA sz f u

section
variable {w : World} {M : Nat → Prop} {bs : Nat → Option Hd} {sz : Nat} {f : Nat → List AV}
theorem V.nilv {v : Value} {u : AV} (h : V w M bs v u) : V w M bs v (Eng.nilv sz f u) := by
  cases u with
  | nil => cases h; exact .view ⟨0, 0, none⟩ (fun _ _ => undef) (Nat.le_refl _) (Nat.zero_le _) (fun h => by omega) (fun i hi => by omega) (fun i hi => by omega) (fun i hi => by omega) (fun i hi => by omega)
  | _ => exact h
theorem V.nilvA {v : Value} {u : AV} (h : V w M bs v u) : V w M bs v (Eng.nilvA sz f u) := by
  cases u with
  | agg cs =>
    cases h with
    | agg hl h1 hv =>
      refine .agg (by rw [List.length_map]; exact hl) h1 fun j v u hj hu => ?_
      rw [List.getElem?_map] at hu
      obtain ⟨u0, hu0, rfl⟩ := Option.map_eq_some_iff.1 hu
      exact V.nilv (hv j v u0 hj hu0)
  | _ => exact V.nilv (sz := sz) (f := f) h
theorem V.nilvC {v : Value} {u : AV} (h : V w M bs v u) : V w M bs v (Eng.nilvC sz f u) := by
  cases u with
  | tuple cs =>
    cases h with
    | tuple hl hv =>
      refine .tuple (by rw [List.length_map]; exact hl) fun j v u hj hu => ?_
      rw [List.getElem?_map] at hu
      obtain ⟨u0, hu0, rfl⟩ := Option.map_eq_some_iff.1 hu
      exact V.nilvA (hv j v u0 hj hu0)
  | _ => exact V.nilvA (sz := sz) (f := f) h
end

theorem ACalls.nilv {C : Ctx} {g : FuncId} {args : List AV} {objs : List AObj} {R : AV → List (Nat × AObj) → Prop} (sz : Nat) (f : Nat → List AV) (h : ACalls C g args objs fun u O => R (nilvC sz f u) O) : ACalls C g args objs R := by
  refine ⟨h.1, fun E bs w cargs h1 h2 h3 h4 h5 h6 h7 => ?_⟩
  refine (h.2 E bs w cargs h1 h2 h3 h4 h5 h6 h7).mono ?_
  rintro e w' ⟨v, u, O', bs', r1, r2, r3, r4, r5⟩
  exact ⟨v, _, O', bs', r1, r2, r3, V.nilvC r4, r5⟩
end Go.Eng
/- Find and Same: the loops' states. -/
namespace Go.Eng

/-- The first of k products with an ID; k if there is none. -/
def firstId (g : Nat → PR) (s : List UInt8) : Nat → Nat
  | 0 => 0
  | k + 1 => bif decide (firstId g s k < k) then firstId g s k else (bif decide ((g k).id = s) then k else k + 1)
def zeroPR : PR := ⟨[], [], [], 0, 0, 0, 0, fun _ => [], fun _ => []⟩
def fnd (g : Nat → PR) (s : List UInt8) (n : Nat) : PR := bif decide (firstId g s n < n) then g (firstId g s n) else zeroPR
def S_clone : Spec
  | [.view 2 n f], [] => some (.view 2 n f, [], 0 < n ∧ n ≤ 1000 ∧ f = atRow (nmOf f) (vlOf f))
  | _, _ => none
def S_fcl : Spec
  | [.agg [.str id, .str code, .str brand, .int .i64 d, .int .i64 c, .int .i64 q, .view 2 na h], .ptr 0 0], [.cells [.str s] t] => some (.bool (decide (id = s)), [(0, .cells [.str s] 9)], t = 9)
  | _, _ => none
def ixOf (g : Nat → PR) (s : List UInt8) (n : Nat) : Int := bif decide (firstId g s n < n) then (firstId g s n : Int) else -1
def S_ixf : Spec
  | [.own 0 n, .func 32 [.ptr 1 0]], [.row t 7 m f fr, .cells [.str s] t2] => some (.int .i64 (ixOf (prOf f) s n), [(0, .row 26 7 n f false), (1, .cells [.str s] 9)], t = 26 ∧ t2 = 9 ∧ fr = false ∧ n = m ∧ n ≤ 1000 ∧ f = pdRow (prOf f))
  | _, _ => none
def S_ix (g : Nat → PR) (s : List UInt8) (n k : Nat) : St := ⟨[(0, .own 0 n), (1, .func 32 [.ptr 1 0]), (7, .int .i64 n), (8, .int .i64 k)], [(0, .row 26 7 n (pdRow g) false), (1, .cells [.str s] 9)], 2, []⟩
def L_ix (g : Nat → PR) (s : List UInt8) (n : Nat) : LSpec := fun st Q => canonIs te 2 [0, 1, 7, 8] st (S_ix g s n 0) ∧ n ≤ 1000 ∧
  condP (decide (firstId g s n < n)) (Q .ret ⟨[(4, .int .i64 (firstId g s n))], [(0, .row 26 7 n (pdRow g) false), (1, .cells [.str s] 9)], 2, []⟩)
    (Q (.exit 0) ⟨[], [(0, .row 26 7 n (pdRow g) false), (1, .cells [.str s] 9)], 2, []⟩)
def S_find : Spec
  | [.own 0 n, .str s], [.row t 7 m f fr] => some (.tuple [.agg [.str (fnd (prOf f) s n).id, .str (fnd (prOf f) s n).code, .str (fnd (prOf f) s n).brand, .int .i64 (fnd (prOf f) s n).d, .int .i64 (fnd (prOf f) s n).c, .int .i64 (fnd (prOf f) s n).q, .view 2 (fnd (prOf f) s n).na (atRow (fnd (prOf f) s n).nm (fnd (prOf f) s n).vl)], .bool (decide (firstId (prOf f) s n < n))],
      [(0, .row 26 7 n f false)], t = 26 ∧ fr = false ∧ n = m ∧ n ≤ 1000 ∧ f = pdRow (prOf f) ∧ ∀ i, i < n → (prOf f i).Short)
  | _, _ => none
def S_fr (g : Nat → PR) (s : List UInt8) (n k : Nat) : St := ⟨[(1, .str s), (4, .ptr 1 0), (8, .own 0 n), (9, .int .i64 n), (10, .int .i64 k)], [(0, .row 26 7 n (pdRow g) false), (1, .cells [.str [], .str [], .str [], .int .i64 0, .int .i64 0, .int .i64 0, .nil] 26)], 2, []⟩
def L_fr (g : Nat → PR) (s : List UInt8) (n : Nat) : LSpec := fun st Q => canonIs te 1 [1, 4, 8, 9, 10] st (S_fr g s n 0) ∧ n ≤ 1000 ∧
  condP (decide (firstId g s n < n)) (Q .ret ⟨[(4, .ptr 1 0), (5, .bool true)], [(0, .row 26 7 n (pdRow g) false), (1, .cells [.str (g (firstId g s n)).id, .str (g (firstId g s n)).code, .str (g (firstId g s n)).brand, .int .i64 (g (firstId g s n)).d, .int .i64 (g (firstId g s n)).c, .int .i64 (g (firstId g s n)).q, .view 2 (g (firstId g s n)).na (atRow (g (firstId g s n)).nm (g (firstId g s n)).vl)] 26)], 2, []⟩)
    (Q (.exit 0) ⟨[(4, .ptr 1 0)], [(0, .row 26 7 n (pdRow g) false), (1, .cells [.str [], .str [], .str [], .int .i64 0, .int .i64 0, .int .i64 0, .nil] 26)], 2, []⟩)
def S_same : Spec
  | [.agg [.str id, .str code, .str brand, .int .i64 d, .int .i64 c, .int .i64 q, .view 2 n f], .agg [.str id', .str code', .str brand', .int .i64 d', .int .i64 c', .int .i64 q', .view 2 n' f']], [] => some (.bool true, [], id' = id ∧ code' = code ∧ brand' = brand ∧ d' = d ∧ c' = c ∧ q' = q ∧ n' = n ∧ f' = f ∧ n ≤ 1000 ∧ f = atRow (nmOf f) (vlOf f))
  | _, _ => none
def prL (p : PR) : List AV := [.str p.id, .str p.code, .str p.brand, .int .i64 p.d, .int .i64 p.c, .int .i64 p.q, .view 2 p.na (atRow p.nm p.vl)]
def S_sm (p : PR) (k : Nat) : St := ⟨[(2, .ptr 0 0), (3, .ptr 1 0), (43, .int .i64 p.na), (44, .int .i64 k)], [(0, .cells [.str p.id, .str p.code, .str p.brand, .int .i64 p.d, .int .i64 p.c, .int .i64 p.q, .view 2 p.na (atRow p.nm p.vl)] 26), (1, .cells [.str p.id, .str p.code, .str p.brand, .int .i64 p.d, .int .i64 p.c, .int .i64 p.q, .view 2 p.na (atRow p.nm p.vl)] 26)], 2, []⟩
def L_sm (p : PR) : LSpec := fun st Q => canonIs te 0 [2, 3, 43, 44] st (S_sm p 0) ∧ p.na ≤ 1000 ∧ Q (.exit 0) ⟨[], [], 0, []⟩
end Go.Eng
/- The law ProductValid: what its parts answer. -/
namespace Go.Eng

def S_awake : Spec
  | [], [] => some (.bool true, [], True)
  | _, _ => none
def S_val : Spec
  | [.agg [.str id, .str code, .str brand, .int .i64 d, .int .i64 c, .int .i64 a, .own 0 n]], [.row t 2 m f fr] => some (.int .i64 (valF id code brand d c a n (nmOf f) (vlOf f)), [(0, .row 52 2 n f false)],
      t = 52 ∧ fr = false ∧ n = m ∧ n ≤ 4294967281 ∧ code.length < 4294967281 ∧ brand.length < 4294967281 ∧ (∀ i, i < n → (nmOf f i).length < 4294967281 ∧ (vlOf f i).length < 4294967281) ∧ f = atRow (nmOf f) (vlOf f))
  | _, _ => none
theorem cd_awake : cdF [52, 48, 48, 54, 51, 56, 49, 51, 51, 51, 57, 51] = (1, true) := by decide +kernel
theorem id_awake : validIDF [57, 54, 51, 56, 53, 48, 55, 52] = true := by decide +kernel
end Go.Eng
/- A nil slice in a cell, told as data of no element. -/
namespace Go.Eng

def nilVC (r j sz : Nat) (f : Nat → List AV) (s : St) : St := match lk s.O r with
  | some (.cells cs ct) => match isNilAt cs j with
    | true => ⟨s.T, (r, .cells (cs.set j (.view sz 0 f)) ct) :: rm r s.O, s.nx, []⟩
    | false => s
  | _ => s

theorem RepS.nilVC {C : Ctx} {E : Ent} {N : Nat} {s : St} {bs : Nat → Option Hd} {a : Act} {w : World} (r0 j0 sz : Nat) (f : Nat → List AV) (h : RepS C E N s bs a w) : RepS C E N (nilVC r0 j0 sz f s) bs a w := by
  unfold Eng.nilVC
  split
  · rename_i cs ct hd
    split
    · rename_i hnil
      have hnil : cs[j0]? = some .nil := by
        unfold isNilAt at hnil
        split at hnil
        · assumption
        · cases hnil
      obtain ⟨T, O, nx, dec⟩ := s
      obtain ⟨⟨hF, hW⟩, hnx, hm⟩ := h
      have hd : lk O r0 = some (.cells cs ct) := hd
      let O' : List (Nat × AObj) := (r0, .cells (cs.set j0 (.view sz 0 f)) ct) :: rm r0 O
      have hlk : ∀ r o, lk O' r = some o → (r = r0 ∧ o = .cells (cs.set j0 (.view sz 0 f)) ct) ∨ (r ≠ r0 ∧ lk O r = some o) := fun r o ho => by
        have ho : lk ((r0, .cells (cs.set j0 (.view sz 0 f)) ct) :: rm r0 O) r = some o := ho
        rw [lk_rm, lk_cons] at ho
        split at ho
        · rename_i e
          have e : r0 = r := e
          exact .inl ⟨e.symm, (Option.some.inj ho).symm⟩
        · rename_i e
          exact .inr ⟨fun e' => e e'.symm, ho⟩
      have hback : ∀ r o, lk O r = some o → ∃ o', lk O' r = some o' ∧ o'.mut = o.mut := fun r o ho => by
        show ∃ o', lk ((r0, .cells (cs.set j0 (.view sz 0 f)) ct) :: rm r0 O) r = some o' ∧ o'.mut = o.mut
        rw [lk_rm, lk_cons]
        by_cases e : r0 = r
        · subst e
          rw [hd] at ho
          obtain rfl := Option.some.inj ho
          exact ⟨.cells (cs.set j0 (.view sz 0 f)) ct, by simp, rfl⟩
        · exact ⟨o, by simp [e, ho], rfl⟩
      have hold : ∀ r o, lk O' r = some o → ∃ o', lk O r = some o' ∧ o'.mut = o.mut := fun r o ho => by
        rcases hlk r o ho with ⟨rfl, rfl⟩ | ⟨_, h2⟩
        · exact ⟨_, hd, rfl⟩
        · exact ⟨_, h2, rfl⟩
      have hMB : MB E (lk O') bs = MB E (lk O) bs := by
        funext b
        apply propext
        constructor
        · rintro (h | ⟨r, o, c, h1, h2, h3⟩)
          · exact .inl h
          · obtain ⟨o', q1, q2⟩ := hold r o h1
            exact .inr ⟨r, o', c, q1, q2.trans h2, h3⟩
        · rintro (h | ⟨r, o, c, h1, h2, h3⟩)
          · exact .inl h
          · obtain ⟨o', q1, q2⟩ := hback r o h1
            exact .inr ⟨r, o', c, q1, q2.trans h2, h3⟩
      have hmb : ∀ b, mutB (lk O') bs b → mutB (lk O) bs b := fun b ⟨r, o, c, h1, h2, h3⟩ => by
        obtain ⟨o', q1, q2⟩ := hold r o h1
        exact ⟨r, o', c, q1, q2.trans h2, h3⟩
      refine ⟨⟨?_, ?_⟩, fun r hr => ⟨?_, (hnx r hr).2⟩, hm⟩
      · show FRep w (MB E (lk O') bs) bs N (lk T) a
        rw [hMB]; exact hF
      · exact {
          obj := fun r o ho => by
            rw [hMB]
            rcases hlk r o ho with ⟨rfl, rfl⟩ | ⟨hne, ho⟩
            · obtain ⟨b, c, vs, q1, q2, q3, q4, q5⟩ := hW.obj r _ hd
              refine ⟨b, c, vs, q1, q2, by rw [List.length_set]; exact q3, q4, fun j v u hv hu => ?_⟩
              by_cases hj : j0 = j
              · subst hj
                have hlt : j0 < cs.length := by
                  rcases Nat.lt_or_ge j0 cs.length with h | h
                  · exact h
                  · rw [List.getElem?_eq_none h] at hnil; cases hnil
                rw [List.getElem?_set_self hlt] at hu
                obtain rfl := Option.some.inj hu
                have hV := q5 j0 v _ hv hnil
                cases hV
                exact .view ⟨0, 0, none⟩ (fun _ _ => undef) (Nat.le_refl _) (Nat.zero_le _) (fun h => by omega) (fun i hi => by omega) (fun i hi => by omega) (fun i hi => by omega) (fun i hi => by omega)
              · rw [List.getElem?_set_ne hj] at hu
                exact q5 j v u hv hu
            · exact hW.obj r o ho
          sep := fun r r' o1 o2 b c c' h1 h2 m1 m2 b1 b2 => by
            obtain ⟨o1', p1, p2⟩ := hold r o1 h1
            obtain ⟨o2', p3, p4⟩ := hold r' o2 h2
            exact hW.sep r r' o1' o2' b c c' p1 p3 (p2.trans m1) (p4.trans m2) b1 b2
          out := fun b hb => hW.out b (hmb b hb)
          frz := fun r t' sz' n f b c ho hb => by
            rw [hMB]
            rcases hlk r _ ho with ⟨rfl, h⟩ | ⟨hne, ho⟩
            · cases h
            · exact hW.frz r t' sz' n f b c ho hb
          high := fun b hb => hW.high b (by rw [← hMB]; exact hb)
          lt := hW.lt
          outlt := hW.outlt
          keep := hW.keep
          old := fun b hb => hW.old b (hmb b hb)
          size := hW.size
          pre := hW.pre
          os := hW.os
          tape := hW.tape
          output := hW.output
          laid := hW.laid
          gle := hW.gle }
      · show lk O' r = none
        cases ho : lk O' r with
        | none => rfl
        | some o =>
          obtain ⟨o', p1, _⟩ := hold r o ho
          rw [(hnx r hr).1] at p1; cases p1
    · exact h
  · exact h

theorem AWP.nilVC {C : Ctx} {m N : Nat} {c : Code} {Q : Exit → St → Prop} {s : St} (r j sz : Nat) (f : Nat → List AV) (h : AWP C m N c Q (Eng.nilVC r j sz f s)) : AWP C m N c Q s := by
  intro E hE bs a w hr
  exact h E hE bs a w (hr.nilVC r j sz f)

/-- The nil slice in the cell j behind the pointer in slot d. -/
def nilVP (d j sz : Nat) (f : Nat → List AV) (s : St) : St := match lk s.T d with
  | some (.ptr r i) => Eng.nilVC r (i + j) sz f s
  | _ => s
theorem AWP.nilVP {C : Ctx} {m N : Nat} {c : Code} {Q : Exit → St → Prop} {s : St} (d j sz : Nat) (f : Nat → List AV) (h : AWP C m N c Q (Eng.nilVP d j sz f s)) : AWP C m N c Q s := by
  unfold Eng.nilVP at h
  split at h
  · exact AWP.nilVC _ _ sz f h
  · exact h

end Go.Eng
/- The laws of catalogs: the loops' states. -/
namespace Go.Eng

def S_pm (N : Int) (i : CatS) : St := ⟨[(3, .ptr 0 0), (4, .own 1 i.c), (11, .int .i64 N), (12, .int .i64 i.c)],
  [(0, .cells [.view 1 0 (intRow fun _ => 0), .int .i64 i.a] 31), (1, .row 26 7 i.c (pdRow i.g) false)], 2, []⟩
def L_pm (N : Int) : LSpec := fun st Q => canonIs te 0 [3, 4, 11, 12] (nilVP 3 0 1 (intRow fun _ => 0) (ownNil 4 26 7 st)) (S_pm N ⟨0, fun _ => default, 0⟩) ∧ (0 ≤ N ∧ N ≤ 201) ∧
  ∀ i : CatS, i.c = N.toNat → (∀ j, j < i.c → (i.g j).Short ∧ (i.g j).id = idF j ∧ errOf (i.g j) = 0) → Q (.exit 0) ⟨[(4, .own 0 i.c)], [(0, .row 26 7 i.c (pdRow i.g) false)], 1, []⟩
def S_pc (n : Nat) (g : Nat → PR) (k : Nat) : St := ⟨[(4, .own 0 n), (41, .int .i64 k)], [(0, .row 26 7 n (pdRow g) false)], 1, []⟩
def L_pc : LSpec := fun st Q => ∃ (n : Nat) (g : Nat → PR), canonIs te 0 [4, 41] st (S_pc n g 0) ∧ n ≤ 1000 ∧ (∀ i, i < n → (g i).Short) ∧ Q (.exit 1) ⟨[(4, .own 0 n)], [(0, .row 26 7 n (pdRow g) false)], 1, []⟩
theorem ids_up : ∀ k, k < 202 → Op.bytesLess (idF (k : Nat)) (idF ((k + 1 : Nat) : Int)) = true := by decide +kernel
end Go.Eng
/- Find and Same. -/
namespace Go.Eng
open Go.Proofs Go.RowKit
variable {C : Ctx}
set_option maxRecDepth 20000
theorem nf_clone (n : Nat) (nm vl : Nat → List UInt8) (R : AV → List (Nat × AObj) → Prop) : wpFn te [] [] 0 Tryd.f33 [.view 2 (n + 1) (atRow nm vl)] [] R = ((0 ≤ 16777216 ∧ 2 = 2 ∧ 0 ≤ 9223372036854775807) ∧ (2 = 2 ∧ 0 ≤ 0 ∧ 2 = 2 ∧ 52 = 52 ∧ 2 = 2 ∧ 0 + (n + 1) ≤ 9223372036854775807 ∧ (0 + (n + 1)) * TI.bytes (TI.mk (TypeDesc.struct #[Field.mk "Name" (9 : TypeId) 0 false "" "" 0, Field.mk "Value" (9 : TypeId) 1 false "" "" 16]) 2 32 (Value.agg #[Value.string (ByteArray.mk #[]), Value.string (ByteArray.mk #[])]) true) ≤ 140737488355328) ∧ (∀ (i : Nat), i < 0 + (n + 1) → true = true) ∧ ∃ (O' : List (Nat × AObj)), RowsEq [(0, .row 52 2 (0 + (n + 1)) (apF 0 (chunkA (TI.sz (TI.mk (TypeDesc.struct #[Field.mk "Name" (9 : TypeId) 0 false "" "" 0, Field.mk "Value" (9 : TypeId) 1 false "" "" 16]) 2 32 (Value.agg #[Value.string (ByteArray.mk #[]), Value.string (ByteArray.mk #[])]) true)) (List.flatten (List.replicate 0 [.str ([]), .str ([])]))) (atRow nm vl)) false)] O' ∧ R (.own 0 (0 + (n + 1))) O') := by kernel_rfl
theorem nf_fcl (id code brand : List UInt8) (d c q : Int) (na : Nat) (h : Nat → List AV) (s : List UInt8) (R : AV → List (Nat × AObj) → Prop) : wpFn te [] [] 0 Tryd.f32 [.agg [.str id, .str code, .str brand, .int .i64 d, .int .i64 c, .int .i64 q, .view 2 na h], .ptr 0 0] [.cells [.str s] 9] R = (R (.bool (decide (id = s))) [(0, .cells [.str s] 9)]) := by kernel_rfl
theorem nf_ix (g : Nat → PR) (s : List UInt8) (n : Nat) (R : AV → List (Nat × AObj) → Prop) : wpFn te [(32, .det S_fcl)] [(2, L_ix g s n)] 0 Tryd.f31 [.own 0 n, .func 32 [.ptr 1 0]] [.row 26 7 n (pdRow g) false, .cells [.str s] 9] R = ((TEq [(0, .own 0 n), (1, .func 32 [.ptr 1 0]), (7, .int .i64 (↑n : Int)), (8, .int .i64 0)] [(0, .own 0 n), (1, .func 32 [.ptr 1 0]), (7, .int .i64 (↑n : Int)), (8, .int .i64 (↑0 : Int))] ∧ RowsEq [(0, .row 26 7 n (pdRow g) false), (1, .cells [.str s] 9)] [(0, .row 26 7 n (pdRow g) false), (1, .cells [.str s] 9)]) ∧ n ≤ 1000 ∧ condP (decide (firstId g s n < n)) ((∀ (i : Nat), i < n → true = true) ∧ ∃ (O' : List (Nat × AObj)), RowsEq [(0, .row 26 7 n (pdRow g) false), (1, .cells [.str s] 9)] O' ∧ R (.int .i64 (↑(firstId g s n) : Int)) O') ((∀ (i : Nat), i < n → true = true) ∧ ∃ (O' : List (Nat × AObj)), RowsEq [(0, .row 26 7 n (pdRow g) false), (1, .cells [.str s] 9)] O' ∧ R (.int .i64 (-1 : Int)) O')) := by kernel_rfl
theorem nf_ix_round (g : Nat → PR) (s : List UInt8) (n k : Nat) (P : Nat → Prop) (R : Exit → St → Prop) : roundP ⟨te, [(32, .det S_fcl)], [], 2, 19, 0⟩ (loopB Tryd.f31 2) [0, 1, 7, 8] [] [4] (S_ix g s n) P R (S_ix g s n k) = (condP (decide ((↑k : Int) < (↑n : Int))) (((0 : Int) ≤ (↑k : Int) ∧ (↑k : Int) < (↑n : Int)) ∧ (Int.toNat (↑k : Int) < n ∧ 7 = 7) ∧ 9 = 9 ∧ condP (decide (PR.id (g (Int.toNat (↑k : Int))) = s)) ((∀ (i : Nat), i < n → true = true) ∧ ∃ (O' : List (Nat × AObj)), RowsEq [(0, .row 26 7 n (pdRow g) false), (1, .cells [.str s] 9)] O' ∧ R .ret (St.mk [(4, .int .i64 (↑k : Int))] O' 2 [])) (inR .i64 ((↑k : Int) + (1 : Int)) ∧ ∃ (i' : Nat), (TEq [(0, .own 0 n), (1, .func 32 [.ptr 1 0]), (7, .int .i64 (↑n : Int)), (8, .int .i64 ((↑k : Int) + (1 : Int)))] [(0, .own 0 n), (1, .func 32 [.ptr 1 0]), (7, .int .i64 (↑n : Int)), (8, .int .i64 (↑i' : Int))] ∧ RowsEq [(0, .row 26 7 n (pdRow g) false), (1, .cells [.str s] 9)] [(0, .row 26 7 n (pdRow g) false), (1, .cells [.str s] 9)]) ∧ P i')) ((∀ (i : Nat), i < n → true = true) ∧ ∃ (O' : List (Nat × AObj)), RowsEq [(0, .row 26 7 n (pdRow g) false), (1, .cells [.str s] 9)] O' ∧ R (.exit 0) (St.mk [] O' 2 []))) := by kernel_rfl
theorem nf_fr (g : Nat → PR) (s : List UInt8) (n : Nat) (R : AV → List (Nat × AObj) → Prop) : wpFn te [] [(2, L_fr g s n)] 0 Tryd.f18 [.own 0 n, .str s] [.row 26 7 n (pdRow g) false] R = ((TEq [(1, .str s), (4, .ptr 1 0), (8, .own 0 n), (9, .int .i64 (↑n : Int)), (10, .int .i64 0)] [(1, .str s), (4, .ptr 1 0), (8, .own 0 n), (9, .int .i64 (↑n : Int)), (10, .int .i64 (↑0 : Int))] ∧ RowsEq [(0, .row 26 7 n (pdRow g) false), (1, .cells [.str [], .str [], .str [], .int .i64 0, .int .i64 0, .int .i64 0, .nil] 26)] [(0, .row 26 7 n (pdRow g) false), (1, .cells [.str [], .str [], .str [], .int .i64 0, .int .i64 0, .int .i64 0, .nil] 26)]) ∧ n ≤ 1000 ∧ condP (decide (firstId g s n < n)) ((True ∧ True) ∧ (∀ (i : Nat), i < n → true = true) ∧ ∃ (O' : List (Nat × AObj)), RowsEq [(0, .row 26 7 n (pdRow g) false)] O' ∧ R (.tuple [.agg [.str (PR.id (g (firstId g s n))), .str (PR.code (g (firstId g s n))), .str (PR.brand (g (firstId g s n))), .int .i64 (PR.d (g (firstId g s n))), .int .i64 (PR.c (g (firstId g s n))), .int .i64 (PR.q (g (firstId g s n))), .view 2 (PR.na (g (firstId g s n))) (atRow (PR.nm (g (firstId g s n))) (PR.vl (g (firstId g s n))))], .bool true]) O') ((True ∧ True) ∧ (∀ (i : Nat), i < n → true = true) ∧ ∃ (O' : List (Nat × AObj)), RowsEq [(0, .row 26 7 n (pdRow g) false)] O' ∧ R (.tuple [.agg [.str [], .str [], .str [], .int .i64 0, .int .i64 0, .int .i64 0, .nil], .bool false]) O')) := by kernel_rfl
theorem nf_fr_round (g : Nat → PR) (s : List UInt8) (n k : Nat) (P : Nat → Prop) (R : Exit → St → Prop) : roundP ⟨te, [], [], 1, 21, 0⟩ (loopB Tryd.f18 2) [1, 4, 8, 9, 10] [4] [4, 5] (S_fr g s n) P R (S_fr g s n k) = (condP (decide ((↑k : Int) < (↑n : Int))) (((0 : Int) ≤ (↑k : Int) ∧ (↑k : Int) < (↑n : Int)) ∧ (Int.toNat (↑k : Int) < n ∧ 7 = 7) ∧ condP (decide (PR.id (g (Int.toNat (↑k : Int))) = s)) ((∀ (i : Nat), i < n → true = true) ∧ ∃ (O' : List (Nat × AObj)), RowsEq [(0, .row 26 7 n (pdRow g) false), (1, .cells [.str (PR.id (g (Int.toNat (↑k : Int)))), .str (PR.code (g (Int.toNat (↑k : Int)))), .str (PR.brand (g (Int.toNat (↑k : Int)))), .int .i64 (PR.d (g (Int.toNat (↑k : Int)))), .int .i64 (PR.c (g (Int.toNat (↑k : Int)))), .int .i64 (PR.q (g (Int.toNat (↑k : Int)))), .view 2 (PR.na (g (Int.toNat (↑k : Int)))) (atRow (PR.nm (g (Int.toNat (↑k : Int)))) (PR.vl (g (Int.toNat (↑k : Int)))))] 26)] O' ∧ R .ret (St.mk [(4, .ptr 1 0), (5, .bool true)] O' 2 [])) (inR .i64 ((↑k : Int) + (1 : Int)) ∧ ∃ (i' : Nat), (TEq [(1, .str s), (4, .ptr 1 0), (8, .own 0 n), (9, .int .i64 (↑n : Int)), (10, .int .i64 ((↑k : Int) + (1 : Int)))] [(1, .str s), (4, .ptr 1 0), (8, .own 0 n), (9, .int .i64 (↑n : Int)), (10, .int .i64 (↑i' : Int))] ∧ RowsEq [(0, .row 26 7 n (pdRow g) false), (1, .cells [.str [], .str [], .str [], .int .i64 0, .int .i64 0, .int .i64 0, .nil] 26)] [(0, .row 26 7 n (pdRow g) false), (1, .cells [.str [], .str [], .str [], .int .i64 0, .int .i64 0, .int .i64 0, .nil] 26)]) ∧ P i')) ((∀ (i : Nat), i < n → true = true) ∧ ∃ (O' : List (Nat × AObj)), RowsEq [(0, .row 26 7 n (pdRow g) false), (1, .cells [.str [], .str [], .str [], .int .i64 0, .int .i64 0, .int .i64 0, .nil] 26)] O' ∧ R (.exit 0) (St.mk [(4, .ptr 1 0)] O' 2 []))) := by kernel_rfl
theorem nf_find (g : Nat → PR) (s : List UInt8) (n : Nat) (R : AV → List (Nat × AObj) → Prop) : wpFn te [(31, .det S_ixf), (33, .det S_clone)] [] 0 Tryd.f17 [.own 0 n, .str s] [.row 26 7 n (pdRow g) false] R = ((∀ (i : Nat), i < n → true = true) ∧ (26 = 26 ∧ 9 = 9 ∧ false = false ∧ n = n ∧ n ≤ 1000 ∧ pdRow g = pdRow (prOf (pdRow g))) ∧ (∀ (i : Nat), i < n → true = true) ∧ condP (decide (ixOf (prOf (pdRow g)) s n < (0 : Int))) ((True ∧ True) ∧ (∀ (i : Nat), i < n → true = true) ∧ ∃ (O' : List (Nat × AObj)), RowsEq [(0, .row 26 7 n (pdRow g) false)] O' ∧ R (.tuple [.agg [.str [], .str [], .str [], .int .i64 0, .int .i64 0, .int .i64 0, .nil], .bool false]) O') (((0 : Int) ≤ ixOf (prOf (pdRow g)) s n ∧ ixOf (prOf (pdRow g)) s n < (↑n : Int)) ∧ (Int.toNat (ixOf (prOf (pdRow g)) s n) < n ∧ 7 = 7) ∧ (0 < PR.na (g (Int.toNat (ixOf (prOf (pdRow g)) s n))) ∧ PR.na (g (Int.toNat (ixOf (prOf (pdRow g)) s n))) ≤ 1000 ∧ atRow (PR.nm (g (Int.toNat (ixOf (prOf (pdRow g)) s n)))) (PR.vl (g (Int.toNat (ixOf (prOf (pdRow g)) s n)))) = atRow (nmOf (atRow (PR.nm (g (Int.toNat (ixOf (prOf (pdRow g)) s n)))) (PR.vl (g (Int.toNat (ixOf (prOf (pdRow g)) s n)))))) (vlOf (atRow (PR.nm (g (Int.toNat (ixOf (prOf (pdRow g)) s n)))) (PR.vl (g (Int.toNat (ixOf (prOf (pdRow g)) s n))))))) ∧ (True ∧ True) ∧ (∀ (i : Nat), i < n → true = true) ∧ ∃ (O' : List (Nat × AObj)), RowsEq [(0, .row 26 7 n (pdRow g) false)] O' ∧ R (.tuple [.agg [.str (PR.id (g (Int.toNat (ixOf (prOf (pdRow g)) s n)))), .str (PR.code (g (Int.toNat (ixOf (prOf (pdRow g)) s n)))), .str (PR.brand (g (Int.toNat (ixOf (prOf (pdRow g)) s n)))), .int .i64 (PR.d (g (Int.toNat (ixOf (prOf (pdRow g)) s n)))), .int .i64 (PR.c (g (Int.toNat (ixOf (prOf (pdRow g)) s n)))), .int .i64 (PR.q (g (Int.toNat (ixOf (prOf (pdRow g)) s n)))), .view 2 (PR.na (g (Int.toNat (ixOf (prOf (pdRow g)) s n)))) (atRow (PR.nm (g (Int.toNat (ixOf (prOf (pdRow g)) s n)))) (PR.vl (g (Int.toNat (ixOf (prOf (pdRow g)) s n)))))], .bool true]) O')) := by kernel_rfl
theorem nf_same (p : PR) (R : AV → List (Nat × AObj) → Prop) : wpFn te [] [(4, L_sm p)] 0 Tryd.f19 [.agg [.str p.id, .str p.code, .str p.brand, .int .i64 p.d, .int .i64 p.c, .int .i64 p.q, .view 2 p.na (atRow p.nm p.vl)], .agg [.str p.id, .str p.code, .str p.brand, .int .i64 p.d, .int .i64 p.c, .int .i64 p.q, .view 2 p.na (atRow p.nm p.vl)]] [] R = (condP (!decide (PR.id p = PR.id p)) (R (.bool false) []) (condP (!decide (PR.code p = PR.code p)) (R (.bool false) []) (condP (!decide (PR.brand p = PR.brand p)) (R (.bool false) []) (condP (!(decide (PR.d p = PR.d p) && (decide (PR.c p = PR.c p) && decide (PR.q p = PR.q p)))) (R (.bool false) []) (condP (!decide ((↑(PR.na p) : Int) = (↑(PR.na p) : Int))) (R (.bool false) []) (some (St.mk [(2, .ptr 0 0), (3, .ptr 1 0), (43, .int .i64 (↑(PR.na p) : Int)), (44, .int .i64 0)] [(0, .cells [.str (PR.id p), .str (PR.code p), .str (PR.brand p), .int .i64 (PR.d p), .int .i64 (PR.c p), .int .i64 (PR.q p), .view 2 (PR.na p) (atRow (PR.nm p) (PR.vl p))] 26), (1, .cells [.str (PR.id p), .str (PR.code p), .str (PR.brand p), .int .i64 (PR.d p), .int .i64 (PR.c p), .int .i64 (PR.q p), .view 2 (PR.na p) (atRow (PR.nm p) (PR.vl p))] 26)] 2 []) = some (St.mk [(2, .ptr 0 0), (3, .ptr 1 0), (43, .int .i64 (↑(PR.na p) : Int)), (44, .int .i64 (↑0 : Int))] [(0, .cells [.str (PR.id p), .str (PR.code p), .str (PR.brand p), .int .i64 (PR.d p), .int .i64 (PR.c p), .int .i64 (PR.q p), .view 2 (PR.na p) (atRow (PR.nm p) (PR.vl p))] 26), (1, .cells [.str (PR.id p), .str (PR.code p), .str (PR.brand p), .int .i64 (PR.d p), .int .i64 (PR.c p), .int .i64 (PR.q p), .view 2 (PR.na p) (atRow (PR.nm p) (PR.vl p))] 26)] 2 []) ∧ PR.na p ≤ 1000 ∧ R (.bool true) [])))))) := by kernel_rfl
theorem nf_sm_round (p : PR) (k : Nat) (P : Nat → Prop) (R : Exit → St → Prop) : roundP ⟨te, [], [], 0, 59, 0⟩ (loopB Tryd.f19 4) [2, 3, 43, 44] [] [4] (S_sm p) P R (S_sm p k) = (condP (decide ((↑k : Int) < (↑(PR.na p) : Int))) (((0 : Int) ≤ (↑k : Int) ∧ (↑k : Int) < (↑(PR.na p) : Int) ∧ 2 = 2) ∧ ((0 : Int) ≤ (↑k : Int) ∧ (↑k : Int) < (↑(PR.na p) : Int) ∧ 2 = 2) ∧ condP (!(decide (PR.nm p (Int.toNat (↑k : Int)) = PR.nm p (Int.toNat (↑k : Int))) && decide (PR.vl p (Int.toNat (↑k : Int)) = PR.vl p (Int.toNat (↑k : Int))))) (R .ret (St.mk [(4, .bool false)] [] 0 [])) (inR .i64 ((↑k : Int) + (1 : Int)) ∧ ∃ (i' : Nat), some (St.mk [(2, .ptr 0 0), (3, .ptr 1 0), (43, .int .i64 (↑(PR.na p) : Int)), (44, .int .i64 ((↑k : Int) + (1 : Int)))] [(0, .cells [.str (PR.id p), .str (PR.code p), .str (PR.brand p), .int .i64 (PR.d p), .int .i64 (PR.c p), .int .i64 (PR.q p), .view 2 (PR.na p) (atRow (PR.nm p) (PR.vl p))] 26), (1, .cells [.str (PR.id p), .str (PR.code p), .str (PR.brand p), .int .i64 (PR.d p), .int .i64 (PR.c p), .int .i64 (PR.q p), .view 2 (PR.na p) (atRow (PR.nm p) (PR.vl p))] 26)] 2 []) = some (St.mk [(2, .ptr 0 0), (3, .ptr 1 0), (43, .int .i64 (↑(PR.na p) : Int)), (44, .int .i64 (↑i' : Int))] [(0, .cells [.str (PR.id p), .str (PR.code p), .str (PR.brand p), .int .i64 (PR.d p), .int .i64 (PR.c p), .int .i64 (PR.q p), .view 2 (PR.na p) (atRow (PR.nm p) (PR.vl p))] 26), (1, .cells [.str (PR.id p), .str (PR.code p), .str (PR.brand p), .int .i64 (PR.d p), .int .i64 (PR.c p), .int .i64 (PR.q p), .view 2 (PR.na p) (atRow (PR.nm p) (PR.vl p))] 26)] 2 []) ∧ P i')) (R (.exit 0) (St.mk [] [] 0 []))) := by kernel_rfl

theorem firstId_le (g : Nat → PR) (s : List UInt8) : ∀ k, firstId g s k ≤ k
  | 0 => Nat.le_refl _
  | k + 1 => by
    have ih := firstId_le g s k
    rw [firstId]
    cases decide (firstId g s k < k) with
    | true => exact Nat.le_succ_of_le ih
    | false => cases decide ((g k).id = s) <;> simp
theorem firstId_at {g : Nat → PR} {s : List UInt8} {k : Nat} (h : firstId g s k = k) (hk : (g k).id = s) : ∀ n, k < n → firstId g s n = k
  | 0, hn => by omega
  | n + 1, hn => by
    rw [firstId]
    by_cases e : k = n
    · subst e
      rw [decide_eq_false (show ¬ firstId g s k < k by omega), decide_eq_true hk]; rfl
    · have ih := firstId_at h hk n (by omega)
      rw [ih, decide_eq_true (show k < n by omega)]; rfl
theorem firstId_not {g : Nat → PR} {s : List UInt8} {k : Nat} (h : firstId g s k = k) (hk : ¬ (g k).id = s) : firstId g s (k + 1) = k + 1 := by
  rw [firstId, decide_eq_false (show ¬ firstId g s k < k by omega), decide_eq_false hk]; rfl

theorem clone_ok (hP : C.P = Tryd.prog) : SpecOK C 33 S_clone := by
  rintro args objs U Os vc h hvc
  unfold S_clone at h
  split at h <;> simp only [Option.some.injEq, Prod.mk.injEq, reduceCtorEq] at h
  rename_i n f
  obtain ⟨rfl, rfl, rfl⟩ := h
  obtain ⟨hn, hm, hf⟩ := hvc
  obtain ⟨k, rfl⟩ : ∃ k, n = k + 1 := ⟨n - 1, by omega⟩
  generalize nmOf f = nm at *
  generalize vlOf f = vl at *
  subst hf
  refine ACalls.frz 0 ?_
  refine RSpecOK.wpL (prg hP) [] [] 0 .nil (hP ▸ Tryd.func33) rfl rfl rfl [] (by kernel_rfl) trivial ?_
  rw [nf_clone]
  refine ⟨⟨by omega, rfl, by omega⟩, ⟨rfl, Nat.le_refl _, rfl, rfl, rfl, by omega, ?_⟩, fun _ _ => rfl, [(0, .row 52 2 (0 + (k + 1)) (atRow nm vl) false)], ⟨⟨rfl, rfl, rfl, rfl, rfl, fun i hi => ?_⟩, trivial⟩, ⟨52, 2, 0 + (k + 1), atRow nm vl, false, rfl, fun _ _ => rfl, ?_⟩⟩
  · show (0 + (k + 1)) * 32 ≤ _
    omega
  · simp [apF]
  · have hb : Nat.ble (k + 1) (k + 1) = true := Nat.ble_eq_true_of_le (Nat.le_refl _)
    simp [frzC, frzA, frz, rm, hb]

theorem fcl_ok (hP : C.P = Tryd.prog) : SpecOK C 32 S_fcl := by
  rintro args objs U Os vc h hvc
  unfold S_fcl at h
  split at h <;> simp only [Option.some.injEq, Prod.mk.injEq, reduceCtorEq] at h
  obtain ⟨rfl, rfl, rfl⟩ := h
  subst hvc
  refine SpecOK.wp0 (prg hP) [] 0 .nil (hP ▸ Tryd.func32) rfl rfl rfl ?_
  rw [nf_fcl]
  exact ⟨rfl, rfl⟩

theorem ix_loop (hP : C.P = Tryd.prog) (g : Nat → PR) (s : List UInt8) (n : Nat) : LoopOK C 2 19 (loopC Tryd.f31 2) (L_ix g s n) := by
  rintro st Q ⟨h0, hn, hQ⟩
  have hR := condP_elim hQ
  refine LoopOK.mk (prg hP) [(32, .det S_fcl)] 0 (.cons (fcl_ok hP) .nil) [0, 1, 7, 8] [] [4] (S_ix g s n) (fun k => k ≤ n ∧ firstId g s k = k) (fun k => n - k) 0 ⟨Nat.zero_le _, rfl⟩ h0 (fun k hk => ?_) (fun i => ⟨fun _ _ => rfl, trivial⟩)
  obtain ⟨hkn, hok⟩ := hk
  rw [nf_ix_round, Int.toNat_natCast]
  refine condP_dec (fun h1 => ?_) (fun h1 => ⟨fun _ _ => rfl, _, rowsEqR _, ?_⟩)
  · refine ⟨⟨by omega, by omega⟩, ⟨by omega, rfl⟩, rfl, condP_dec (fun h2 => ⟨fun _ _ => rfl, _, rowsEqR _, ?_⟩) (fun h2 => ⟨by simp only [inR]; omega, k + 1, ⟨rfl, rowsEqR _⟩, ⟨by omega, firstId_not hok h2⟩, by omega⟩)⟩
    have e := firstId_at hok h2 n (by omega)
    have := hR.1 (by rw [e, decide_eq_true]; omega)
    rw [e] at this; exact this
  · have : k = n := by omega
    subst this
    exact hR.2 (by rw [hok, decide_eq_false]; omega)

theorem ix_ok (hP : C.P = Tryd.prog) : SpecOK C 31 S_ixf := by
  rintro args objs U Os vc h hvc
  unfold S_ixf at h
  split at h <;> simp only [Option.some.injEq, Prod.mk.injEq, reduceCtorEq] at h
  rename_i n t m f fr s t2
  obtain ⟨rfl, rfl, rfl⟩ := h
  obtain ⟨rfl, rfl, rfl, rfl, hn, hf⟩ := hvc
  generalize prOf f = g at *
  subst hf
  refine SpecOK.wpL (prg hP) [(32, .det S_fcl)] [(2, L_ix g s n)] 0 (.cons (fcl_ok hP) .nil) (hP ▸ Tryd.func31) rfl rfl rfl [(loopC Tryd.f31 2, L_ix g s n)] (by kernel_rfl) ⟨ix_loop hP g s n, trivial⟩ ?_
  rw [nf_ix]
  unfold ixOf
  refine ⟨⟨rfl, rowsEqR _⟩, hn, condP_dec (fun h => ⟨fun _ _ => rfl, _, rowsEqR _, ?_⟩) (fun h => ⟨fun _ _ => rfl, _, rowsEqR _, ?_⟩)⟩
  · rw [decide_eq_true h]; exact ⟨rfl, rfl⟩
  · rw [decide_eq_false h]; exact ⟨rfl, rfl⟩

theorem fr_loop (hP : C.P = Tryd.prog) (g : Nat → PR) (s : List UInt8) (n : Nat) : LoopOK C 1 21 (loopC Tryd.f18 2) (L_fr g s n) := by
  rintro st Q ⟨h0, hn, hQ⟩
  have hR := condP_elim hQ
  refine LoopOK.mk (prg hP) [] 0 .nil [1, 4, 8, 9, 10] [4] [4, 5] (S_fr g s n) (fun k => k ≤ n ∧ firstId g s k = k) (fun k => n - k) 0 ⟨Nat.zero_le _, rfl⟩ h0 (fun k hk => ?_) (fun i => ⟨fun _ _ => rfl, trivial⟩)
  obtain ⟨hkn, hok⟩ := hk
  rw [nf_fr_round, Int.toNat_natCast]
  refine condP_dec (fun h1 => ?_) (fun h1 => ⟨fun _ _ => rfl, _, rowsEqR _, ?_⟩)
  · refine ⟨⟨by omega, by omega⟩, ⟨by omega, rfl⟩, condP_dec (fun h2 => ⟨fun _ _ => rfl, _, rowsEqR _, ?_⟩) (fun h2 => ⟨by simp only [inR]; omega, k + 1, ⟨rfl, rowsEqR _⟩, ⟨by omega, firstId_not hok h2⟩, by omega⟩)⟩
    have e := firstId_at hok h2 n (by omega)
    have := hR.1 (by rw [e, decide_eq_true]; omega)
    rw [e] at this; exact this
  · have : k = n := by omega
    subst this
    exact hR.2 (by rw [hok, decide_eq_false]; omega)

theorem findR_ok (hP : C.P = Tryd.prog) : SpecOK C 18 S_find := by
  rintro args objs U Os vc h hvc
  unfold S_find at h
  split at h <;> simp only [Option.some.injEq, Prod.mk.injEq, reduceCtorEq] at h
  rename_i n s t m f fr
  obtain ⟨rfl, rfl, rfl⟩ := h
  obtain ⟨rfl, rfl, rfl, hn, hf, hs⟩ := hvc
  generalize prOf f = g at *
  subst hf
  refine ACalls.nilv 2 (atRow zeroPR.nm zeroPR.vl) ?_
  refine RSpecOK.wpL (prg hP) [] [(2, L_fr g s n)] 0 .nil (hP ▸ Tryd.func18) rfl rfl rfl [(loopC Tryd.f18 2, L_fr g s n)] (by kernel_rfl) ⟨fr_loop hP g s n, trivial⟩ ?_
  rw [nf_fr]
  unfold fnd
  refine ⟨⟨rfl, rowsEqR _⟩, hn, condP_dec (fun h => ⟨⟨trivial, trivial⟩, fun _ _ => rfl, _, rowsEqR _, ?_⟩) (fun h => ⟨⟨trivial, trivial⟩, fun _ _ => rfl, _, rowsEqR _, ?_⟩)⟩
  · rw [decide_eq_true h]; exact ⟨rfl, rfl⟩
  · rw [decide_eq_false h]; exact ⟨rfl, rfl⟩

theorem find_ok (hP : C.P = Tryd.prog) : SpecOK C 17 S_find := by
  rintro args objs U Os vc h hvc
  unfold S_find at h
  split at h <;> simp only [Option.some.injEq, Prod.mk.injEq, reduceCtorEq] at h
  rename_i n s t m f fr
  obtain ⟨rfl, rfl, rfl⟩ := h
  obtain ⟨rfl, rfl, rfl, hn, hf, hs⟩ := hvc
  generalize prOf f = g at *
  subst hf
  refine ACalls.nilv 2 (atRow zeroPR.nm zeroPR.vl) ?_
  refine RSpecOK.wpL (prg hP) [(31, .det S_ixf), (33, .det S_clone)] [] 0 (.cons (ix_ok hP) (.cons (clone_ok hP) .nil)) (hP ▸ Tryd.func17) rfl rfl rfl [] (by kernel_rfl) trivial ?_
  rw [nf_find]
  have hg : prOf (pdRow g) = g := rfl
  rw [hg]
  by_cases h : firstId g s n < n
  · have hix : ixOf g s n = (firstId g s n : Int) := by unfold ixOf; rw [decide_eq_true h]; rfl
    have hfn : fnd g s n = g (firstId g s n) := by unfold fnd; rw [decide_eq_true h]; rfl
    rw [hix, hfn, Int.toNat_natCast, decide_eq_true h]
    have hp := (hs _ h).na
    exact ⟨fun _ _ => rfl, ⟨rfl, rfl, rfl, rfl, hn, rfl⟩, fun _ _ => rfl, condP_dec (fun q => absurd q (by omega)) (fun _ => ⟨⟨by omega, by omega⟩, ⟨h, rfl⟩, ⟨by omega, by omega, rfl⟩, ⟨trivial, trivial⟩, fun _ _ => rfl, _, rowsEqR _, rfl, rfl⟩)⟩
  · have hix : ixOf g s n = -1 := by unfold ixOf; rw [decide_eq_false h]; rfl
    have hfn : fnd g s n = zeroPR := by unfold fnd; rw [decide_eq_false h]; rfl
    rw [hix, hfn, decide_eq_false h]
    exact ⟨fun _ _ => rfl, ⟨rfl, rfl, rfl, rfl, hn, rfl⟩, fun _ _ => rfl, condP_dec (fun _ => ⟨⟨trivial, trivial⟩, fun _ _ => rfl, _, rowsEqR _, rfl, rfl⟩) (fun q => absurd (show (-1 : Int) < 0 by omega) q)⟩

theorem sm_loop (hP : C.P = Tryd.prog) (p : PR) : LoopOK C 0 59 (loopC Tryd.f19 4) (L_sm p) := by
  rintro st Q ⟨h0, hn, hQ⟩
  refine LoopOK.mk (prg hP) [] 0 .nil [2, 3, 43, 44] [] [4] (S_sm p) (fun k => k ≤ p.na) (fun k => p.na - k) 0 (Nat.zero_le _) h0 (fun k hk => ?_)
  rw [nf_sm_round, Int.toNat_natCast]
  refine condP_dec (fun h1 => ⟨⟨by omega, by omega, rfl⟩, ⟨by omega, by omega, rfl⟩, ?_⟩) (fun _ => hQ)
  rw [decide_eq_true rfl, decide_eq_true rfl]
  exact ⟨by simp only [inR]; omega, k + 1, rfl, by omega, by omega⟩

theorem same_ok (hP : C.P = Tryd.prog) : SpecOK C 19 S_same := by
  rintro args objs U Os vc h hvc
  unfold S_same at h
  split at h <;> simp only [Option.some.injEq, Prod.mk.injEq, reduceCtorEq] at h
  rename_i id code brand d c q n f id' code' brand' d' c' q' n' f'
  obtain ⟨rfl, rfl, rfl⟩ := h
  obtain ⟨rfl, rfl, rfl, rfl, rfl, rfl, rfl, rfl, hn, hf⟩ := hvc
  generalize nmOf f' = nm at *
  generalize vlOf f' = vl at *
  subst hf
  refine SpecOK.wpL (prg hP) [] [(4, L_sm ⟨id', code', brand', d', c', q', n', nm, vl⟩)] 0 .nil (hP ▸ Tryd.func19) rfl rfl rfl [(loopC Tryd.f19 4, L_sm ⟨id', code', brand', d', c', q', n', nm, vl⟩)] (by kernel_rfl) ⟨sm_loop hP _, trivial⟩ ?_
  refine (nf_same ⟨id', code', brand', d', c', q', n', nm, vl⟩ _).mpr ?_
  simp only [decide_true, Bool.not_true, Bool.and_self, condP_false]
  exact ⟨trivial, hn, trivial, trivial⟩
end Go.Eng
