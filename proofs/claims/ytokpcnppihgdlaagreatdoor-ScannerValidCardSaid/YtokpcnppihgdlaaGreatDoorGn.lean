/- Lemmas that the tied card of ScannerValid is proved by. -/
import Derived.Test.YtokpcnppihgdlaaGreatDoorGm
import Derived.LaidLaws
import Derived.Deep.DeepLaidRun
import Derived.WalkKit
import Derived.OpenShut
import Derived.ShutString
import Derived.ChangeOld
import Derived.Test.YtokpcnppihgdlaaGreatDoorGl
import Derived.Test.YtokpcnppihgdlaaGreatDoorGj
/- A world that meets the row's condition. -/
namespace Go.Eng
open Go.Proofs Go.RowKit

def litV : DataW Unit → Value
  | .lit (.int k n) => .int k n
  | _ => default
def flatD : DataW Unit → List (DataW Unit)
  | .agg l => l
  | x => [x]
noncomputable def low : Nat := (World.holding Tryz.prog default ⟨#[], #[], []⟩).heap.size
noncomputable def laidWorld (os : Os) : World :=
  let w0 := World.holding Tryz.prog os ⟨#[.cells #[.string ⟨#[118, 97, 108, 117, 101, 32, 111, 117, 116, 32, 111, 102, 32, 114, 97, 110, 103, 101]⟩] 219, .cells #[.string ⟨#[105, 110, 118, 97, 108, 105, 100, 32, 115, 121, 110, 116, 97, 120]⟩] 219], #[], []⟩
  let put (h : Array Obj) (g : Nat) (cs : Array Value) : Array Obj := h.modify g fun
    | .cells _ t frozen => .cells cs t frozen
    | o => o
  let h1 := put w0.heap 6 ((flatD Go.Proofs.YtokpcnppihgdlaaGreatDoor.Rows.laid_math_bits_deBruijn32tab).map litV).toArray
  let h2 := put h1 7 ((flatD Go.Proofs.YtokpcnppihgdlaaGreatDoor.Rows.laid_math_bits_deBruijn64tab).map litV).toArray
  let h3 := put h2 5 ((flatD Go.Proofs.YtokpcnppihgdlaaGreatDoor.Rows.laid_internal_strconv_uint64pow10).map litV).toArray
  let h4 := put h3 2 (((flatD Go.Proofs.YtokpcnppihgdlaaGreatDoor.Rows.laid_unicode_utf8_acceptRanges).flatMap flatD).map litV).toArray
  let h5 := put h4 1 ((flatD Go.Proofs.YtokpcnppihgdlaaGreatDoor.Rows.laid_unicode_utf8_first).map litV).toArray
  let h6 := put h5 4 #[.iface 217 (.pointer (some ⟨low, 0, none⟩))]
  let h7 := put h6 3 #[.iface 217 (.pointer (some ⟨low + 1, 0, none⟩))]
  { w0 with heap := h7 }
theorem laid_met (os : Os) (args : Array Value) : laidMet Tryz.prog Go.Proofs.YtokpcnppihgdlaaGreatDoor.Rows.scannerValidRow.laid ((laidWorld os).forCall (fun _ _ => 0) ⟨#[], args, []⟩).memory :=
  laidMet_of_run3 8 (by kernel_rfl) (by kernel_rfl) (by kernel_rfl)
end Go.Eng
/- What all rows share: the context of the engine at this program. -/
namespace Go.Eng
open Go.Proofs Go.RowKit Go.ChangeShapes Go.WideShapes Go.ChangeAt

theorem mixedOK : Tryz.prog.follows .mixedOrders = true := by kernel_rfl
theorem keepOK (w w' : World) (h : ∀ b, b < max (max 0 3) 4 + 1 → w'.heap[b]? = w.heap[b]?) (hl : LaidW w) : LaidW w' := by
  have k : ∀ g : Nat, g < max (max 0 3) 4 + 1 → w'.cell? ⟨g, 0, none⟩ = w.cell? ⟨g, 0, none⟩ := fun g hg => World.cell?_of_block (w := w) (h g hg)
  obtain ⟨h1, h2, h3⟩ := hl
  exact ⟨by rw [k _ (by decide)]; exact h1, by rw [k _ (by decide)]; exact h2, by rw [k _ (by decide)]; exact h3⟩
noncomputable def cx : Ctx := ⟨Tryz.prog, max (max 0 3) 4 + 1, LaidW, mixedOK, keepOK, false⟩
instance : Ctx.Loose cx := ⟨rfl⟩
theorem cell_in {w : World} {g : Nat} {v : Value} (h : w.cell? ⟨g, 0, none⟩ = some v) : g < w.heap.size := by
  have hc : w.cells? 0 ⟨g, 0, none⟩ 1 = some [v] := Go.ChangeShapes.cells?_of (by omega) rfl (fun i hi => by
    obtain rfl : i = 0 := by omega
    exact h)
  exact World.cells?_block hc (by omega)
theorem gsz_le {w : World} (h : LaidW w) : cx.gsz ≤ w.heap.size := by
  obtain ⟨⟨_, h1⟩, ⟨_, _, h2⟩, ⟨_, _, h3⟩⟩ := h
  have a := cell_in h1
  have b := cell_in h2
  have c := cell_in h3
  show max (max _ _) _ + 1 ≤ _
  omega
theorem ownK : ownKnob Tryz.prog.godebug = none := by kernel_rfl
theorem laidOut : laidOutB Tryz.prog = true := by kernel_rfl
end Go.Eng
/- Orders told by numbers (below, equal, above), and lists that ascend strictly. -/
namespace Go.Eng

/-- Comparing by a total order, up to what it does not look at. -/
structure PreC {α : Type} (c : α → α → Int) : Prop where
  neg : ∀ x y, c y x < 0 ↔ 0 < c x y
  trans : ∀ x y z, c x y ≤ 0 → c y z ≤ 0 → c x z ≤ 0

namespace PreC
variable {α β : Type} {c : α → α → Int}
theorem self (h : PreC c) (x : α) : c x x = 0 := by
  have := h.neg x x
  omega
theorem lt_le (h : PreC c) {x y z : α} (a : c x y < 0) (b : c y z ≤ 0) : c x z < 0 := by
  have h1 := h.trans x y z (by omega) b
  have h2 := h.neg x z
  have h3 := h.neg z x
  rcases Int.lt_or_eq_of_le h1 with h' | h'
  · exact h'
  · have h4 : c z x ≤ 0 := by omega
    have h5 := h.trans y z x b h4
    have := h.neg y x
    omega
theorem le_lt (h : PreC c) {x y z : α} (a : c x y ≤ 0) (b : c y z < 0) : c x z < 0 := by
  have h1 := h.trans x y z a (by omega)
  have h2 := h.neg x z
  have h3 := h.neg z x
  rcases Int.lt_or_eq_of_le h1 with h' | h'
  · exact h'
  · have h4 : c z x ≤ 0 := by omega
    have h5 := h.trans z x y h4 a
    have := h.neg z y
    omega
theorem lt_trans (h : PreC c) {x y z : α} (a : c x y < 0) (b : c y z < 0) : c x z < 0 := h.lt_le a (by omega)
theorem eq_symm (h : PreC c) {x y : α} (a : c x y = 0) : c y x = 0 := by
  have h1 := h.neg x y
  have h2 := h.neg y x
  omega
theorem comap (h : PreC c) (f : β → α) : PreC fun x y => c (f x) (f y) := ⟨fun x y => h.neg _ _, fun x y z => h.trans _ _ _⟩
end PreC

/-- The first that is not 0. -/
def orL : List Int → Int
  | [] => 0
  | x :: l => bif decide (x = 0) then orL l else x
theorem PreC.nil {α : Type} : PreC fun (_ _ : α) => orL [] := ⟨fun _ _ => by simp [orL], fun _ _ _ _ _ => by simp [orL]⟩
theorem PreC.or {α : Type} {c : α → α → Int} {d : α → α → List Int} (h : PreC c) (k : PreC fun x y => orL (d x y)) : PreC fun x y => orL (c x y :: d x y) := by
  have e : ∀ x y, orL (c x y :: d x y) = if c x y = 0 then orL (d x y) else c x y := fun x y => by
    rw [orL]; by_cases q : c x y = 0 <;> simp [q]
  refine ⟨fun x y => ?_, fun x y z h1 h2 => ?_⟩
  · rw [e, e]
    have h1 := h.neg x y
    have h2 := h.neg y x
    have h3 := k.neg x y
    by_cases q : c x y = 0
    · rw [if_pos q, if_pos (h.eq_symm q)]; exact h3
    · rw [if_neg q, if_neg (fun q' => q (h.eq_symm q'))]; exact h1
  · rw [e] at h1 h2 ⊢
    by_cases q : c x y = 0
    · rw [if_pos q] at h1
      by_cases q' : c y z = 0
      · rw [if_pos q'] at h2
        have a1 := h.trans x y z (by omega) (by omega)
        have a2 := h.trans z y x (by have := h.eq_symm q'; omega) (by have := h.eq_symm q; omega)
        have a3 := h.neg z x
        rw [if_pos (by omega)]
        exact k.trans x y z h1 h2
      · rw [if_neg q'] at h2
        have a1 := h.le_lt (x := x) (y := y) (z := z) (by omega) (by omega)
        rw [if_neg (by omega)]; exact Int.le_of_lt a1
    · rw [if_neg q] at h1
      have : c y z ≤ 0 := by
        by_cases q' : c y z = 0
        · omega
        · rw [if_neg q'] at h2; exact h2
      have a1 := h.lt_le (x := x) (y := y) (z := z) (by omega) this
      rw [if_neg (by omega)]; exact Int.le_of_lt a1
theorem orL_zero {x : Int} {l : List Int} : orL (x :: l) = 0 ↔ x = 0 ∧ orL l = 0 := by
  rw [orL]
  by_cases h : x = 0 <;> simp [h]

/-- Numbers and texts compared. -/
def cmpI (a b : Int) : Int := bif decide (a < b) then -1 else bif decide (b < a) then 1 else 0
def cmpS (a b : List UInt8) : Int := bif Op.bytesLess a b then -1 else bif Op.bytesLess b a then 1 else 0
theorem cmpI_val (a b : Int) : (a < b ∧ cmpI a b = -1) ∨ (a = b ∧ cmpI a b = 0) ∨ (b < a ∧ cmpI a b = 1) := by
  unfold cmpI
  by_cases h : a < b
  · simp [h]
  · by_cases h' : b < a
    · simp [h, h']
    · have : a = b := by omega
      simp [this]
theorem cmpI_preC : PreC cmpI := by
  refine ⟨fun x y => ?_, fun x y z => ?_⟩
  · have := cmpI_val x y; have := cmpI_val y x; omega
  · have := cmpI_val x y; have := cmpI_val y z; have := cmpI_val x z; omega
theorem cmpI_zero {a b : Int} : cmpI a b = 0 ↔ a = b := by have := cmpI_val a b; omega

theorem bl_self : ∀ a : List UInt8, Op.bytesLess a a = false
  | [] => rfl
  | a :: x => by simp [Op.bytesLess, bl_self x]
theorem bl_tri : ∀ a b : List UInt8, Op.bytesLess a b = true ∨ a = b ∨ Op.bytesLess b a = true
  | [], [] => .inr (.inl rfl)
  | [], _ :: _ => .inl rfl
  | _ :: _, [] => .inr (.inr rfl)
  | a :: x, b :: y => by
    simp only [Op.bytesLess, Bool.or_eq_true, Bool.and_eq_true, decide_eq_true_eq, beq_iff_eq]
    rcases bl_tri x y with h | h | h
    · by_cases e : a = b
      · exact .inl (.inr ⟨e, h⟩)
      · rcases Nat.lt_or_gt_of_ne (fun q => e (UInt8.toNat_inj.1 q)) with q | q
        · exact .inl (.inl q)
        · exact .inr (.inr (.inl q))
    · by_cases e : a = b
      · exact .inr (.inl (by rw [e, h]))
      · rcases Nat.lt_or_gt_of_ne (fun q => e (UInt8.toNat_inj.1 q)) with q | q
        · exact .inl (.inl q)
        · exact .inr (.inr (.inl q))
    · by_cases e : a = b
      · exact .inr (.inr (.inr ⟨e.symm, h⟩))
      · rcases Nat.lt_or_gt_of_ne (fun q => e (UInt8.toNat_inj.1 q)) with q | q
        · exact .inl (.inl q)
        · exact .inr (.inr (.inl q))
theorem bl_trans : ∀ a b c : List UInt8, Op.bytesLess a b = true → Op.bytesLess b c = true → Op.bytesLess a c = true
  | _, [], _, h, _ => by cases ‹List UInt8› <;> simp [Op.bytesLess] at h
  | _, _ :: _, [], _, h => by simp [Op.bytesLess] at h
  | [], _ :: _, _ :: _, _, _ => rfl
  | a :: x, b :: y, c :: z, h, k => by
    simp only [Op.bytesLess, Bool.or_eq_true, Bool.and_eq_true, decide_eq_true_eq, beq_iff_eq] at h k ⊢
    rcases h with h | ⟨rfl, h⟩
    · rcases k with k | ⟨rfl, k⟩
      · exact .inl (UInt8.lt_trans h k)
      · exact .inl h
    · rcases k with k | ⟨rfl, k⟩
      · exact .inl k
      · exact .inr ⟨rfl, bl_trans x y z h k⟩
theorem bl_asymm {a b : List UInt8} (h : Op.bytesLess a b = true) : Op.bytesLess b a = false := by
  cases q : Op.bytesLess b a with
  | false => rfl
  | true => have := bl_trans a b a h q; rw [bl_self] at this; cases this
theorem cmpS_val (a b : List UInt8) : (Op.bytesLess a b = true ∧ cmpS a b = -1) ∨ (a = b ∧ cmpS a b = 0) ∨ (Op.bytesLess b a = true ∧ cmpS a b = 1) := by
  unfold cmpS
  rcases bl_tri a b with h | h | h
  · exact .inl ⟨h, by rw [h]; rfl⟩
  · subst h; exact .inr (.inl ⟨rfl, by rw [bl_self]; rfl⟩)
  · exact .inr (.inr ⟨h, by rw [bl_asymm h, h]; rfl⟩)
theorem cmpS_zero {a b : List UInt8} : cmpS a b = 0 ↔ a = b := by
  constructor
  · intro h
    rcases cmpS_val a b with ⟨_, q⟩ | ⟨q, _⟩ | ⟨_, q⟩
    · omega
    · exact q
    · omega
  · rintro rfl
    unfold cmpS
    rw [bl_self]; rfl
theorem cmpS_neg {a b : List UInt8} : cmpS a b < 0 ↔ Op.bytesLess a b = true := by
  rcases cmpS_val a b with ⟨h, q⟩ | ⟨h, q⟩ | ⟨h, q⟩
  · exact ⟨fun _ => h, fun _ => by omega⟩
  · subst h; rw [bl_self, q]; simp
  · rw [bl_asymm h, q]; simp
theorem cmpS_preC : PreC cmpS := by
  refine ⟨fun x y => ?_, fun x y z h1 h2 => ?_⟩
  · rw [cmpS_neg]
    rcases cmpS_val x y with ⟨h, q⟩ | ⟨h, q⟩ | ⟨h, q⟩
    · rw [bl_asymm h, q]; simp
    · subst h; rw [bl_self, q]; simp
    · rw [h, q]; simp
  · rcases cmpS_val x y with ⟨h, q⟩ | ⟨h, q⟩ | ⟨h, q⟩
    · rcases cmpS_val y z with ⟨h', q'⟩ | ⟨h', q'⟩ | ⟨h', q'⟩
      · have := cmpS_neg.2 (bl_trans x y z h h'); omega
      · subst h'; omega
      · omega
    · subst h; exact h2
    · omega

/-- Lists that ascend strictly: one for each set of members. -/
def Asc {α : Type} (c : α → α → Int) (l : List α) : Prop := l.Pairwise fun x y => c x y < 0
theorem Asc.uniq {α : Type} {c : α → α → Int} (hc : PreC c) : ∀ {l l' : List α}, Asc c l → Asc c l' → (∀ x, x ∈ l ↔ x ∈ l') → l = l'
  | [], [], _, _, _ => rfl
  | [], y :: l', _, _, h => by have := (h y).2 (List.mem_cons_self ..); cases this
  | x :: l, [], _, _, h => by have := (h x).1 (List.mem_cons_self ..); cases this
  | x :: l, y :: l', h1, h2, h => by
    obtain ⟨a1, a2⟩ := List.pairwise_cons.1 h1
    obtain ⟨b1, b2⟩ := List.pairwise_cons.1 h2
    have e : x = y := by
      rcases List.mem_cons.1 ((h x).1 (List.mem_cons_self ..)) with q | q
      · exact q
      · rcases List.mem_cons.1 ((h y).2 (List.mem_cons_self ..)) with q' | q'
        · exact q'.symm
        · have e1 := b1 x q
          have e2 := a1 y q'
          have := hc.lt_trans e1 e2
          rw [hc.self] at this; omega
    subst e
    have irr : ∀ {l : List α}, (∀ z, z ∈ l → c x z < 0) → x ∉ l := fun hl hx => by have := hl x hx; rw [hc.self] at this; omega
    rw [Asc.uniq hc a2 b2 fun z => ⟨fun hz => ?_, fun hz => ?_⟩]
    · rcases List.mem_cons.1 ((h z).1 (List.mem_cons_of_mem _ hz)) with q | q
      · exact absurd (q ▸ hz) (irr a1)
      · exact q
    · rcases List.mem_cons.1 ((h z).2 (List.mem_cons_of_mem _ hz)) with q | q
      · exact absurd (q ▸ hz) (irr b1)
      · exact q
/-- Sorted, and no two the same: it ascends strictly. -/
theorem Asc.of_sorted {α : Type} {c : α → α → Int} {l : List α} (h : l.Pairwise fun x y => ¬ c y x < 0) (hc : PreC c) (hn : l.Pairwise fun x y => c x y ≠ 0) : Asc c l := by
  refine (h.and hn).imp ?_
  rintro x y ⟨a, b⟩
  have := hc.neg x y
  omega
theorem pairwise_range {α : Type} {r : α → α → Prop} {n : Nat} {f : Nat → α} (h : ∀ i j, i < j → j < n → r (f i) (f j)) : ((List.range n).map f).Pairwise r := by
  rw [List.pairwise_map]
  exact List.pairwise_lt_range.imp_of_mem fun {i j} _ hj hij => h i j hij (List.mem_range.1 hj)
theorem pairwise_range_iff {α : Type} {r : α → α → Prop} {n : Nat} {f : Nat → α} : ((List.range n).map f).Pairwise r ↔ ∀ i j, i < j → j < n → r (f i) (f j) := by
  refine ⟨fun h i j hij hj => ?_, pairwise_range⟩
  have := List.pairwise_iff_getElem.1 h i j (by simp; omega) (by simpa using hj) hij
  simpa using this
end Go.Eng
/- The validation of products: the loops' states. -/
namespace Go.Eng

def seenM (nm : Nat → List UInt8) : Nat → List (AV × AV)
  | 0 => []
  | k + 1 => seenM nm k ++ [(.str (nm k), .bool true)]
def S_va (n : Nat) (nm vl : Nat → List UInt8) (k : Nat) : St := ⟨[(3, .map 1), (33, .own 0 n), (34, .int .i64 n), (35, .int .i64 k)], [(0, .row 122 2 n (atRow nm vl) false), (1, .amap (seenM nm k))], 2, []⟩
def L_va (n : Nat) (nm vl : Nat → List UInt8) : LSpec := fun st Q => canonIs te 1 [3, 33, 34, 35] st (S_va n nm vl 0) ∧ n ≤ 12 ∧ (∀ i, i < n → (nm i).length < 4294967281 ∧ (vl i).length < 4294967281) ∧
  condP (atsOK nm vl n) (Q (.exit 1) ⟨[], [(0, .row 122 2 n (atRow nm vl) false)], 1, []⟩) (Q .ret ⟨[(2, .int .i64 94)], [(0, .row 122 2 n (atRow nm vl) false)], 1, []⟩)

theorem mget_seen (nm : Nat → List UInt8) (x : List UInt8) : ∀ j, mget (seenM nm j) (.str x) = bif (List.range j).any (fun i => decide (nm i = x)) then some (.bool true) else none
  | 0 => rfl
  | j + 1 => by
    have app : ∀ (l : List (AV × AV)) (k : AV) (p : AV × AV), mget (l ++ [p]) k = (mget l k).or (bif keq p.1 k then some p.2 else none) := by
      intro l k p
      induction l with
      | nil => simp only [List.nil_append, mget]; cases keq p.1 k <;> rfl
      | cons q l ih =>
        simp only [List.cons_append, mget]
        cases keq q.1 k with
        | true => rfl
        | false => exact ih
    rw [seenM, app, mget_seen nm x j, List.range_succ, List.any_append]
    simp only [List.any_cons, List.any_nil, Bool.or_false, keq]
    cases (List.range j).any (fun i => decide (nm i = x)) <;> cases decide (nm j = x) <;> rfl
theorem fresh_any (nm : Nat → List UInt8) (k : Nat) : ∀ j, freshAt nm j k = !(List.range j).any (fun i => decide (nm i = nm k))
  | 0 => rfl
  | j + 1 => by
    rw [freshAt, fresh_any nm k j, List.range_succ, List.any_append]
    simp only [List.any_cons, List.any_nil, Bool.or_false, Bool.not_or]
    congr 2
    simp only [eq_comm]
theorem mset_fresh (nm : Nat → List UInt8) (x : List UInt8) (v : AV) : ∀ j, (List.range j).any (fun i => decide (nm i = x)) = false → mset (seenM nm j) (.str x) v = seenM nm j ++ [(.str x, v)] := by
  have app : ∀ (l : List (AV × AV)) (k v : AV), (∀ p ∈ l, keq p.1 k = false) → mset l k v = l ++ [(k, v)] := by
    intro l k v h
    induction l with
    | nil => rfl
    | cons q l ih =>
      simp only [List.cons_append, mset]
      rw [h q (List.mem_cons_self ..), ih (fun p hp => h p (List.mem_cons_of_mem _ hp))]
  intro j hj
  apply app
  induction j with
  | zero => intro p hp; cases hp
  | succ j ih =>
    rw [List.range_succ, List.any_append, Bool.or_eq_false_iff] at hj
    intro p hp
    rw [seenM, List.mem_append] at hp
    rcases hp with hp | hp
    · exact ih hj.1 p hp
    · obtain rfl := List.mem_singleton.1 hp
      simpa [keq] using hj.2
theorem seen_keys (nm vl : Nat → List UInt8) : ∀ k, atsOK nm vl k = true → KeysOK .string (seenM nm k)
  | 0, _ => ⟨rfl, List.nodup_nil⟩
  | k + 1, h => by
    rw [atsOK, Bool.and_eq_true] at h
    obtain ⟨h1, h2⟩ := seen_keys nm vl k h.1
    have hf : freshAt nm k k = true := by
      have := h.2
      unfold atOK at this
      rw [Bool.and_eq_true] at this
      exact this.2
    rw [fresh_any, Bool.not_eq_true'] at hf
    have hmem : ∀ j, (List.range j).any (fun i => decide (nm i = nm k)) = false → AV.str (nm k) ∉ (seenM nm j).map Prod.fst := by
      intro j
      induction j with
      | zero => intro _ hm; cases hm
      | succ j ih =>
        intro hj hm
        rw [List.range_succ, List.any_append, Bool.or_eq_false_iff] at hj
        rw [seenM, List.map_append, List.mem_append] at hm
        rcases hm with hm | hm
        · exact ih hj.1 hm
        · have := List.mem_singleton.1 hm
          injection this with this
          have hj2 := hj.2
          simp [this.symm] at hj2
    refine ⟨?_, ?_⟩
    · rw [seenM, List.all_append, h1]; rfl
    · rw [seenM, List.map_append, List.nodup_append]
      refine ⟨h2, by simp, ?_⟩
      intro a ha b hb hab
      obtain rfl := List.mem_singleton.1 hb
      subst hab
      exact hmem k hf ha
theorem seen_rn (σ : Nat → Option Nat) (nm : Nat → List UInt8) : ∀ k, (seenM nm k).map (fun p => (p.1.rn σ, p.2.rn σ)) = seenM nm k
  | 0 => rfl
  | k + 1 => by rw [seenM, List.map_append, seen_rn σ nm k]; rfl

end Go.Eng
/- The validation of products whose attributes are plain data: the loops' states. -/
namespace Go.Eng

def S_valV : Spec
  | [.agg [.str id, .str code, .str brand, .int .i64 d, .int .i64 c, .int .i64 a, .view 2 n f]], [] => some (.int .i64 (valF id code brand d c a n (nmOf f) (vlOf f)), [],
      n ≤ 4294967281 ∧ code.length < 4294967281 ∧ brand.length < 4294967281 ∧ (∀ i, i < n → (nmOf f i).length < 4294967281 ∧ (vlOf f i).length < 4294967281) ∧ f = atRow (nmOf f) (vlOf f))
  | _, _ => none
def S_vw (n : Nat) (nm vl : Nat → List UInt8) (k : Nat) : St := ⟨[(3, .map 0), (33, .view 2 n (atRow nm vl)), (34, .int .i64 n), (35, .int .i64 k)], [(0, .amap (seenM nm k))], 1, []⟩
def L_vw (n : Nat) (nm vl : Nat → List UInt8) : LSpec := fun st Q => canonIs te 0 [3, 33, 34, 35] st (S_vw n nm vl 0) ∧ n ≤ 12 ∧ (∀ i, i < n → (nm i).length < 4294967281 ∧ (vl i).length < 4294967281) ∧
  condP (atsOK nm vl n) (Q (.exit 1) ⟨[], [], 0, []⟩) (Q .ret ⟨[(2, .int .i64 94)], [], 0, []⟩)
structure PW where
  id : List UInt8
  code : List UInt8
  brand : List UInt8
  d : Int
  c : Int
  a : Int
def S_wr (p : PW) (n : Nat) (nm vl : Nat → List UInt8) (k : Nat) : St := ⟨[(1, .ptr 0 0), (28, .view 2 n (atRow nm vl)), (29, .int .i64 n), (30, .int .i64 k)], [(0, .cells [.str p.id, .str p.code, .str p.brand, .int .i64 p.d, .int .i64 p.c, .int .i64 p.a, .view 2 n (atRow nm vl)] 96)], 1, []⟩
def S_wi (p : PW) (n : Nat) (nm vl : Nat → List UInt8) (k j : Nat) : St := ⟨[(1, .ptr 0 0), (4, .ptr 1 0), (28, .view 2 n (atRow nm vl)), (29, .int .i64 n), (30, .int .i64 k), (48, .view 2 k (atRow nm vl)), (49, .int .i64 k), (50, .int .i64 j)], [(0, .cells [.str p.id, .str p.code, .str p.brand, .int .i64 p.d, .int .i64 p.c, .int .i64 p.a, .view 2 n (atRow nm vl)] 96), (1, .cells [.str (nm k), .str (vl k)] 122)], 2, []⟩
def L_wi (p : PW) (n : Nat) (nm vl : Nat → List UInt8) (k : Nat) : LSpec := fun st Q => canonIs te 0 [1, 4, 28, 29, 30, 48, 49, 50] st (S_wi p n nm vl k 0) ∧ k < n ∧ n ≤ 12 ∧
  condP (freshAt nm k k) (Q (.exit 2) (S_wr p n nm vl k)) (Q .ret ⟨[(2, .int .i64 94)], [], 0, []⟩)
def L_wr (p : PW) (n : Nat) (nm vl : Nat → List UInt8) : LSpec := fun st Q => canonIs te 0 [1, 28, 29, 30] st (S_wr p n nm vl 0) ∧ n ≤ 12 ∧ (∀ i, i < n → (nm i).length < 4294967281 ∧ (vl i).length < 4294967281) ∧
  condP (atsOK nm vl n) (Q (.exit 0) ⟨[], [], 0, []⟩) (Q .ret ⟨[(2, .int .i64 94)], [], 0, []⟩)
end Go.Eng
/- Messages, visits, rows: what is right of them. -/
namespace Go.Eng

structure VT where
  o : List UInt8
  p : List UInt8
  per : Int
  day : Int
  st : Int
  pr : Int
  rep : List UInt8
  deriving Inhabited
structure DT where
  o : List UInt8
  p : List UInt8
  per : Int
  dev : List UInt8
  num : Int
  deriving Inhabited
structure MG where
  dev : List UInt8
  seq : Int
  kind : Int
  v : VT
  d : DT
  deriving Inhabited
structure RW where
  o : List UInt8
  p : List UInt8
  per : Int
  u : Int
  tv : Int
  deriving Inhabited
def slotF (o p : List UInt8) (per : Int) : Bool := nameF o && validIDF p && decide (0 ≤ per) && decide (per ≤ 5999)
def rowF (r : RW) : Bool := slotF r.o r.p r.per && decide (1 ≤ min r.u r.tv) && decide (max r.u r.tv ≤ 1099511627776)
def visF (v : VT) : Bool := slotF v.o v.p v.per && decide (0 ≤ v.day) && decide (v.day ≤ 182620) &&
  (bif decide (v.st = 1) || decide (v.st = 2) then decide (1 ≤ v.pr) && decide (v.pr ≤ 1099511627776) && decide (v.rep = [])
  else bif decide (v.st = 3) || decide (v.st = 4) then decide (v.pr = 0) && decide (v.rep = [])
  else bif decide (v.st = 5) then decide (1 ≤ v.pr) && decide (v.pr ≤ 1099511627776) && validIDF v.rep && !decide (v.rep = v.p) else false)
def VT.nil (v : VT) : Bool := decide (v.o = []) && (decide (v.p = []) && (decide (v.per = 0) && (decide (v.day = 0) && (decide (v.st = 0) && (decide (v.pr = 0) && decide (v.rep = []))))))
def DT.nil (d : DT) : Bool := decide (d.o = []) && (decide (d.p = []) && (decide (d.per = 0) && (decide (d.dev = []) && decide (d.num = 0))))
def numF (n : Int) : Bool := decide (1 ≤ n) && decide (n ≤ 1048576)
def msgF (m : MG) : Int := bif !nameF m.dev then 110 else bif !numF m.seq then 111 else bif !decide (m.kind = 1) && !decide (m.kind = 2) then 112
  else bif (decide (m.kind = 1) && !visF m.v) || (decide (m.kind = 2) && !m.v.nil) then 113
  else bif (decide (m.kind = 1) && !m.d.nil) || (decide (m.kind = 2) && !(slotF m.d.o m.d.p m.d.per && nameF m.d.dev && numF m.d.num)) then 114 else 0

def S_val0 : Spec
  | [.agg [.str id, .str code, .str brand, .int .i64 d, .int .i64 c, .int .i64 a, .nil]], [] => some (.int .i64 (valF id code brand d c a 0 (fun _ => []) (fun _ => [])), [], code.length < 4294967281 ∧ brand.length < 4294967281)
  | _, _ => none
def S_calv : Spec
  | [.int .i64 d], [] => some (.bool (decide (0 ≤ d) && decide (d ≤ 182620)), [], True)
  | _, _ => none
def S_cname : Spec
  | [.str s], [] => some (.bool (nameF s), [], s.length < 4294967281)
  | _, _ => none
def S_slot : Spec
  | [.str o, .str p, .int .i64 per], [] => some (.bool (slotF o p per), [], o.length < 4294967281)
  | _, _ => none
def S_num : Spec
  | [.int .i64 n], [] => some (.bool (numF n), [], True)
  | _, _ => none
def S_weekday : Spec
  | [.int .i64 d], [] => some (.int .i64 (bif decide (0 ≤ d) && decide (d ≤ 182620) then d % 7 else -1), [], True)
  | _, _ => none
def S_visit : Spec
  | [.agg [.str o, .str p, .int .i64 per, .int .i64 day, .int .i64 st, .int .i64 pr, .str rep]], [] => some (.bool (visF ⟨o, p, per, day, st, pr, rep⟩), [], o.length < 4294967281)
  | _, _ => none
def S_msg : Spec
  | [.agg [.str dev, .int .i64 seq, .int .i64 kind, .str o, .str p, .int .i64 per, .int .i64 day, .int .i64 st, .int .i64 pr, .str rep, .str o', .str p', .int .i64 per', .str dev', .int .i64 num]], [] =>
      some (.int .i64 (msgF ⟨dev, seq, kind, ⟨o, p, per, day, st, pr, rep⟩, ⟨o', p', per', dev', num⟩⟩), [], dev.length < 4294967281 ∧ o.length < 4294967281 ∧ o'.length < 4294967281 ∧ dev'.length < 4294967281)
  | _, _ => none
end Go.Eng
/- Rows added up by slot: plain lists. -/
namespace Go.Eng

def keyC (a b : RW) : Int := orL [cmpS a.o b.o, cmpS a.p b.p, cmpI a.per b.per]
theorem keyC_preC : PreC keyC := (cmpS_preC.comap RW.o).or ((cmpS_preC.comap RW.p).or ((cmpI_preC.comap RW.per).or .nil))
def sameK (a b : RW) : Bool := decide (a.o = b.o) && decide (a.p = b.p) && decide (a.per = b.per)
theorem sameK_iff {a b : RW} : sameK a b = true ↔ a.o = b.o ∧ a.p = b.p ∧ a.per = b.per := by simp [sameK, and_assoc]
theorem keyC_zero {a b : RW} : keyC a b = 0 ↔ sameK a b = true := by
  rw [sameK_iff, keyC, orL_zero, orL_zero, orL_zero, cmpS_zero, cmpS_zero, cmpI_zero]
  simp [orL]
theorem sameK_self (a : RW) : sameK a a = true := sameK_iff.2 ⟨rfl, rfl, rfl⟩
theorem sameK_symm {a b : RW} (h : sameK a b = true) : sameK b a = true := by
  obtain ⟨h1, h2, h3⟩ := sameK_iff.1 h
  exact sameK_iff.2 ⟨h1.symm, h2.symm, h3.symm⟩
theorem sameK_trans {a b c : RW} (h : sameK a b = true) (k : sameK b c = true) : sameK a c = true := by
  obtain ⟨h1, h2, h3⟩ := sameK_iff.1 h
  obtain ⟨k1, k2, k3⟩ := sameK_iff.1 k
  exact sameK_iff.2 ⟨h1.trans k1, h2.trans k2, h3.trans k3⟩
theorem sameK_congr {a b : RW} (h : sameK a b = true) (c : RW) : sameK a c = sameK b c := by
  obtain ⟨h1, h2, h3⟩ := sameK_iff.1 h
  unfold sameK; rw [h1, h2, h3]

/-- The sums of the rows of a slot. -/
def sumU (x : RW) : List RW → Int
  | [] => 0
  | r :: l => (bif sameK x r then r.u else 0) + sumU x l
def sumT (x : RW) : List RW → Int
  | [] => 0
  | r :: l => (bif sameK x r then r.tv else 0) + sumT x l
theorem sumU_app (x : RW) : ∀ (l l' : List RW), sumU x (l ++ l') = sumU x l + sumU x l'
  | [], l' => by simp [sumU]
  | r :: l, l' => by rw [List.cons_append, sumU, sumU, sumU_app x l l']; omega
theorem sumT_app (x : RW) : ∀ (l l' : List RW), sumT x (l ++ l') = sumT x l + sumT x l'
  | [], l' => by simp [sumT]
  | r :: l, l' => by rw [List.cons_append, sumT, sumT, sumT_app x l l']; omega
theorem sumU_perm (x : RW) {l l' : List RW} (h : l.Perm l') : sumU x l = sumU x l' := by
  induction h with
  | nil => rfl
  | cons _ _ ih => rw [sumU, sumU, ih]
  | swap => simp only [sumU]; omega
  | trans _ _ h1 h2 => exact h1.trans h2
theorem sumT_perm (x : RW) {l l' : List RW} (h : l.Perm l') : sumT x l = sumT x l' := by
  induction h with
  | nil => rfl
  | cons _ _ ih => rw [sumT, sumT, ih]
  | swap => simp only [sumT]; omega
  | trans _ _ h1 h2 => exact h1.trans h2
theorem sumU_congr {x y : RW} (h : sameK x y = true) : ∀ l, sumU x l = sumU y l
  | [] => rfl
  | r :: l => by rw [sumU, sumU, sumU_congr h l, sameK_congr h]
theorem sumT_congr {x y : RW} (h : sameK x y = true) : ∀ l, sumT x l = sumT y l
  | [] => rfl
  | r :: l => by rw [sumT, sumT, sumT_congr h l, sameK_congr h]
theorem sumU_none {x : RW} : ∀ {l : List RW}, (∀ r ∈ l, sameK x r = false) → sumU x l = 0
  | [], _ => rfl
  | r :: l, h => by rw [sumU, h r (List.mem_cons_self ..), sumU_none fun r' hr => h r' (List.mem_cons_of_mem _ hr)]; rfl
theorem sumT_none {x : RW} : ∀ {l : List RW}, (∀ r ∈ l, sameK x r = false) → sumT x l = 0
  | [], _ => rfl
  | r :: l, h => by rw [sumT, h r (List.mem_cons_self ..), sumT_none fun r' hr => h r' (List.mem_cons_of_mem _ hr)]; rfl

/-- The rows added up, in whatever order. -/
structure IsSums (l out : List RW) : Prop where
  parts : out.Pairwise fun a b => sameK a b = false
  sums : ∀ r ∈ out, (∃ x ∈ l, sameK r x = true) ∧ r.u = sumU r l ∧ r.tv = sumT r l
  all : ∀ x ∈ l, ∃ r ∈ out, sameK x r = true

theorem IsSums.nil : IsSums [] [] := ⟨.nil, fun _ h => (by cases h), fun _ h => (by cases h)⟩
theorem parts_symm {out : List RW} : (out.Pairwise fun a b => sameK a b = false) → ∀ {a b : RW}, a ∈ out → b ∈ out → sameK a b = true → a = b := by
  intro h a b ha hb hs
  induction out with
  | nil => cases ha
  | cons r l ih =>
    obtain ⟨h1, h2⟩ := List.pairwise_cons.1 h
    rcases List.mem_cons.1 ha with q | ha'
    · rcases List.mem_cons.1 hb with q' | hb'
      · rw [q, q']
      · rw [q, h1 b hb'] at hs; cases hs
    · rcases List.mem_cons.1 hb with q' | hb'
      · have := h1 a ha'
        rw [q'] at hs
        rw [sameK_symm hs] at this; cases this
      · exact ih h2 ha' hb'
theorem IsSums.perm {l l' out out' : List RW} (h : IsSums l out) (hl : l.Perm l') (ho : out.Perm out') : IsSums l' out' := by
  refine ⟨?_, fun r hr => ?_, fun x hx => ?_⟩
  · exact (ho.pairwise_iff (fun {a b} hab => by
      cases q : sameK b a with
      | false => rfl
      | true => rw [sameK_symm q] at hab; cases hab)).1 h.parts
  · obtain ⟨⟨x, hx, hs⟩, h1, h2⟩ := h.sums r (ho.mem_iff.2 hr)
    exact ⟨⟨x, hl.mem_iff.1 hx, hs⟩, by rw [h1, sumU_perm r hl], by rw [h2, sumT_perm r hl]⟩
  · obtain ⟨r, hr, hs⟩ := h.all x (hl.mem_iff.2 hx)
    exact ⟨r, ho.mem_iff.1 hr, hs⟩
theorem RW.ext' {a b : RW} (h : sameK a b = true) (hu : a.u = b.u) (ht : a.tv = b.tv) : a = b := by
  obtain ⟨h1, h2, h3⟩ := sameK_iff.1 h
  cases a; cases b; simp_all
theorem IsSums.mem_iff {l out out' : List RW} (h : IsSums l out) (h' : IsSums l out') (x : RW) : x ∈ out ↔ x ∈ out' := by
  have key : ∀ {o1 o2 : List RW}, IsSums l o1 → IsSums l o2 → x ∈ o1 → x ∈ o2 := fun k1 k2 hx => by
    obtain ⟨⟨y, hy, hs⟩, e1, e2⟩ := k1.sums x hx
    obtain ⟨r, hr, hs'⟩ := k2.all y hy
    obtain ⟨_, f1, f2⟩ := k2.sums r hr
    have hxr := sameK_trans hs hs'
    rw [RW.ext' hxr (by rw [e1, f1, sumU_congr hxr]) (by rw [e2, f2, sumT_congr hxr])]; exact hr
  exact ⟨key h h', key h' h⟩
/-- One list for each set of rows, if it ascends. -/
theorem IsSums.uniq {l out out' : List RW} (h : IsSums l out) (h' : IsSums l out') (a : Asc keyC out) (a' : Asc keyC out') : out = out' :=
  Asc.uniq keyC_preC a a' (h.mem_iff h')

/-- A slot's sums so far. -/
def getK : List RW → RW → Option RW
  | [], _ => none
  | r :: l, x => bif sameK r x then some r else getK l x
def setK : List RW → RW → List RW
  | [], x => [x]
  | r :: l, x => bif sameK r x then x :: l else r :: setK l x
def addK (out : List RW) (r : RW) : RW := ⟨r.o, r.p, r.per, r.u + ((getK out r).map RW.u).getD 0, r.tv + ((getK out r).map RW.tv).getD 0⟩
theorem addK_same (out : List RW) (r : RW) : sameK (addK out r) r = true := sameK_iff.2 ⟨rfl, rfl, rfl⟩
theorem getK_some : ∀ {l : List RW} {x r : RW}, getK l x = some r → r ∈ l ∧ sameK r x = true
  | [], _, _, h => by cases h
  | r' :: l, x, r, h => by
    rw [getK] at h
    cases q : sameK r' x with
    | true => rw [q] at h; obtain rfl := Option.some.inj h; exact ⟨List.mem_cons_self .., q⟩
    | false => rw [q] at h; obtain ⟨h1, h2⟩ := getK_some (l := l) h; exact ⟨List.mem_cons_of_mem _ h1, h2⟩
theorem getK_none : ∀ {l : List RW} {x : RW}, getK l x = none → ∀ r ∈ l, sameK r x = false
  | [], _, _, _, h => by cases h
  | r' :: l, x, h, r, hr => by
    rw [getK] at h
    cases q : sameK r' x with
    | true => rw [q] at h; cases h
    | false =>
      rw [q] at h
      rcases List.mem_cons.1 hr with rfl | hr
      · exact q
      · exact getK_none (l := l) h r hr
theorem setK_self : ∀ (l : List RW) (x : RW), x ∈ setK l x
  | [], x => by simp [setK]
  | r :: l, x => by
    rw [setK]
    cases q : sameK r x with
    | true => exact List.mem_cons_self ..
    | false => exact List.mem_cons_of_mem _ (setK_self l x)
theorem setK_old : ∀ {l : List RW} {x y : RW}, y ∈ l → sameK y x = false → y ∈ setK l x
  | [], _, _, h, _ => by cases h
  | r :: l, x, y, h, hn => by
    rw [setK]
    cases q : sameK r x with
    | true =>
      rcases List.mem_cons.1 h with rfl | h
      · rw [hn] at q; cases q
      · exact List.mem_cons_of_mem _ h
    | false =>
      rcases List.mem_cons.1 h with rfl | h
      · exact List.mem_cons_self ..
      · exact List.mem_cons_of_mem _ (setK_old h hn)
theorem sameK_false_symm {a b : RW} (h : sameK a b = false) : sameK b a = false := by
  cases q : sameK b a with
  | false => rfl
  | true => rw [sameK_symm q] at h; cases h
theorem setK_parts : ∀ {l : List RW} (x : RW), (l.Pairwise fun a b => sameK a b = false) → ((setK l x).Pairwise fun a b => sameK a b = false) ∧ ∀ y, y ∈ setK l x → y = x ∨ (y ∈ l ∧ sameK y x = false)
  | [], x, _ => ⟨by simp [setK], fun y h => .inl (by simpa [setK] using h)⟩
  | r :: l, x, h => by
    obtain ⟨h1, h2⟩ := List.pairwise_cons.1 h
    rw [setK]
    cases q : sameK r x with
    | true =>
      have hl : ∀ y ∈ l, sameK x y = false := fun y hy => by rw [← sameK_congr q]; exact h1 y hy
      refine ⟨List.pairwise_cons.2 ⟨hl, h2⟩, fun y hy => ?_⟩
      rcases List.mem_cons.1 hy with rfl | hy
      · exact .inl rfl
      · exact .inr ⟨List.mem_cons_of_mem _ hy, sameK_false_symm (hl y hy)⟩
    | false =>
      obtain ⟨i1, i2⟩ := setK_parts (l := l) x h2
      refine ⟨List.pairwise_cons.2 ⟨fun y hy => ?_, i1⟩, fun y hy => ?_⟩
      · rcases i2 y hy with rfl | ⟨h, _⟩
        · exact q
        · exact h1 y h
      · rcases List.mem_cons.1 hy with rfl | hy
        · exact .inr ⟨List.mem_cons_self .., q⟩
        · rcases i2 y hy with h | ⟨h, h'⟩
          · exact .inl h
          · exact .inr ⟨List.mem_cons_of_mem _ h, h'⟩

/-- What a slot has so far is the sums. -/
theorem IsSums.got {l out : List RW} (h : IsSums l out) (r : RW) : ((getK out r).map RW.u).getD 0 = sumU r l ∧ ((getK out r).map RW.tv).getD 0 = sumT r l := by
  cases q : getK out r with
  | some e =>
    obtain ⟨h1, h2⟩ := getK_some q
    obtain ⟨_, h3, h4⟩ := h.sums e h1
    exact ⟨h3.trans (sumU_congr h2 l), h4.trans (sumT_congr h2 l)⟩
  | none =>
    have hn : ∀ x ∈ l, sameK r x = false := fun x hx => by
      obtain ⟨e, he, hs⟩ := h.all x hx
      cases q' : sameK r x with
      | false => rfl
      | true => have := getK_none q e he; rw [sameK_symm (sameK_trans q' hs)] at this; cases this
    exact ⟨(sumU_none hn).symm, (sumT_none hn).symm⟩
/-- One row more. -/
theorem IsSums.step {l out : List RW} (h : IsSums l out) (r : RW) : IsSums (l ++ [r]) (setK out (addK out r)) := by
  obtain ⟨p1, p2⟩ := setK_parts (addK out r) h.parts
  obtain ⟨g1, g2⟩ := h.got r
  have hs := addK_same out r
  refine ⟨p1, fun y hy => ?_, fun x hx => ?_⟩
  · rcases p2 y hy with rfl | ⟨h1, h2⟩
    · refine ⟨⟨r, by simp, hs⟩, ?_, ?_⟩
      · rw [sumU_app, sumU_congr hs, sumU_congr hs, sumU, sumU, sameK_self]
        show r.u + _ = _
        rw [g1]; show r.u + _ = _ + (r.u + 0); omega
      · rw [sumT_app, sumT_congr hs, sumT_congr hs, sumT, sumT, sameK_self]
        show r.tv + _ = _
        rw [g2]; show r.tv + _ = _ + (r.tv + 0); omega
    · obtain ⟨⟨x, hx, hxs⟩, e1, e2⟩ := h.sums y h1
      have hne : sameK y r = false := by
        cases q : sameK y r with
        | false => rfl
        | true => rw [sameK_trans q (sameK_symm hs)] at h2; cases h2
      refine ⟨⟨x, by simp [hx], hxs⟩, ?_, ?_⟩
      · rw [sumU_app, sumU, sumU, hne]; show _ = _ + (0 + 0); omega
      · rw [sumT_app, sumT, sumT, hne]; show _ = _ + (0 + 0); omega
  · rcases List.mem_append.1 hx with hx | hx
    · obtain ⟨e, he, hes⟩ := h.all x hx
      cases q : sameK e (addK out r) with
      | true => exact ⟨_, setK_self _ _, sameK_trans hes q⟩
      | false => exact ⟨e, setK_old he q, hes⟩
    · obtain rfl : x = r := by simpa using hx
      exact ⟨_, setK_self _ _, sameK_symm hs⟩
def sumsF (g : Nat → RW) : Nat → List RW
  | 0 => []
  | k + 1 => setK (sumsF g k) (addK (sumsF g k) (g k))
theorem sumsF_ok (g : Nat → RW) : ∀ k, IsSums ((List.range k).map g) (sumsF g k)
  | 0 => .nil
  | k + 1 => by
    rw [List.range_succ, List.map_append]
    exact (sumsF_ok g k).step (g k)
/-- Sums bounded. -/
theorem sumU_le {B : Int} (hB : 0 ≤ B) (x : RW) : ∀ {l : List RW}, (∀ r ∈ l, 0 ≤ r.u ∧ r.u ≤ B) → 0 ≤ sumU x l ∧ sumU x l ≤ B * l.length
  | [], _ => by simp [sumU]
  | r :: l, h => by
    have ih := sumU_le hB x (l := l) fun r' hr => h r' (List.mem_cons_of_mem _ hr)
    have h0 := h r (List.mem_cons_self ..)
    rw [sumU, List.length_cons]
    have e : B * ((l.length + 1 : Nat) : Int) = B * l.length + B := by rw [Int.natCast_add, Int.mul_add]; simp
    rw [e]
    cases sameK x r with
    | true => show 0 ≤ r.u + _ ∧ r.u + _ ≤ _; omega
    | false => show 0 ≤ 0 + _ ∧ 0 + _ ≤ _; omega
theorem sumT_le {B : Int} (hB : 0 ≤ B) (x : RW) : ∀ {l : List RW}, (∀ r ∈ l, 0 ≤ r.tv ∧ r.tv ≤ B) → 0 ≤ sumT x l ∧ sumT x l ≤ B * l.length
  | [], _ => by simp [sumT]
  | r :: l, h => by
    have ih := sumT_le hB x (l := l) fun r' hr => h r' (List.mem_cons_of_mem _ hr)
    have h0 := h r (List.mem_cons_self ..)
    rw [sumT, List.length_cons]
    have e : B * ((l.length + 1 : Nat) : Int) = B * l.length + B := by rw [Int.natCast_add, Int.mul_add]; simp
    rw [e]
    cases sameK x r with
    | true => show 0 ≤ r.tv + _ ∧ r.tv + _ ≤ _; omega
    | false => show 0 ≤ 0 + _ ∧ 0 + _ ≤ _; omega
/-- Insertion, as the reference does it: the place, then added or put in. -/
theorem Asc.insert {α : Type} {c : α → α → Int} {a b : List α} {x : α} (h : Asc c (a ++ b)) (ha : ∀ y ∈ a, c y x < 0) (hb : ∀ y ∈ b, c x y < 0) : Asc c (a ++ x :: b) := by
  obtain ⟨h1, h2, h3⟩ := List.pairwise_append.1 h
  refine List.pairwise_append.2 ⟨h1, List.pairwise_cons.2 ⟨hb, h2⟩, fun y hy z hz => ?_⟩
  rcases List.mem_cons.1 hz with rfl | hz
  · exact ha y hy
  · exact h3 y hy z hz
end Go.Eng
/- A nil slice in a cell as an own row of no element. -/
namespace Go.Eng

def isNilAt (cs : List AV) (j : Nat) : Bool := match cs[j]? with
  | some .nil => true
  | _ => false
def ownNilC (r j t sz : Nat) (s : St) : St := match lk s.O r with
  | some (.cells cs ct) => match isNilAt cs j with
    | true => ⟨s.T, (s.nx, .row t sz 0 (fun _ => []) false) :: (r, .cells (cs.set j (.own s.nx 0)) ct) :: rm r s.O, s.nx + 1, []⟩
    | false => s
  | _ => s

theorem RepS.ownNilC {C : Ctx} {E : Ent} {N : Nat} {s : St} {bs : Nat → Option Hd} {a : Act} {w : World} (r0 j0 t sz : Nat) (h : RepS C E N s bs a w) : ∃ bs', RepS C E N (ownNilC r0 j0 t sz s) bs' a w := by
  unfold Eng.ownNilC
  split
  · rename_i cs ct hd
    split
    · rename_i hnil
      have hnil : cs[j0]? = some .nil := by
        unfold isNilAt at hnil
        split at hnil
        · assumption
        · cases hnil
      obtain ⟨T, O, nx, dec⟩ := s
      obtain ⟨⟨hF, hW⟩, hnx, hm⟩ := h
      have hn := hnx nx (Nat.le_refl _)
      have hb0 : bs nx = none := hn.2
      have hO0 : lk O nx = none := hn.1
      have hd : lk O r0 = some (.cells cs ct) := hd
      have hne0 : r0 ≠ nx := fun e => by subst e; rw [hO0] at hd; cases hd
      let bs' := up bs nx .nil
      let O' : List (Nat × AObj) := (nx, AObj.row t sz 0 (fun _ => []) false) :: (r0, .cells (cs.set j0 (.own nx 0)) ct) :: rm r0 O
      have hbs : ∀ r x, bs r = some x → bs' r = some x := fun r x hx => by
        have : nx ≠ r := fun e => by subst e; rw [hb0] at hx; cases hx
        show up bs nx .nil r = some x
        rw [up_other _ _ _ this]; exact hx
      have hbk : ∀ r b c, bs' r = some (.blk b c) → bs r = some (.blk b c) := fun r b c hx => by
        by_cases hr : nx = r
        · subst hr
          have : up bs nx .nil nx = some (.blk b c) := hx
          rw [up_same] at this; cases this
        · have : up bs nx .nil r = some (.blk b c) := hx
          rwa [up_other _ _ _ hr] at this
      have hlk : ∀ r o, lk O' r = some o → (r = nx ∧ o = .row t sz 0 (fun _ => []) false) ∨ (r ≠ nx ∧ r = r0 ∧ o = .cells (cs.set j0 (.own nx 0)) ct) ∨ (r ≠ nx ∧ lk O r = some o) := fun r o ho => by
        have ho : lk ((nx, AObj.row t sz 0 (fun _ => []) false) :: (r0, .cells (cs.set j0 (.own nx 0)) ct) :: rm r0 O) r = some o := ho
        rw [lk_cons] at ho
        split at ho
        · rename_i e
          have e' : nx = r := e
          simp only [Option.some.injEq] at ho
          exact .inl ⟨e'.symm, ho.symm⟩
        · rename_i e
          rw [lk_rm, lk_cons] at ho
          split at ho
          · rename_i e2
            have e2' : r0 = r := e2
            simp only [Option.some.injEq] at ho
            exact .inr (.inl ⟨fun e' => e e'.symm, e2'.symm, ho.symm⟩)
          · exact .inr (.inr ⟨fun e' => e e'.symm, ho⟩)
      have hold : ∀ r o, lk O' r = some o → r ≠ nx → ∃ o', lk O r = some o' ∧ o'.mut = o.mut := fun r o ho hr => by
        rcases hlk r o ho with ⟨h1, _⟩ | ⟨_, rfl, rfl⟩ | ⟨_, h2⟩
        · exact absurd h1 hr
        · exact ⟨_, hd, rfl⟩
        · exact ⟨_, h2, rfl⟩
      have hmb : ∀ b, mutB (lk O') bs' b → mutB (lk O) bs b := by
        rintro b ⟨r, o, c, ho, hmu, hb⟩
        have hr : r ≠ nx := fun e => by
          subst e
          have := hbk _ _ _ hb
          rw [hb0] at this; cases this
        obtain ⟨o', h1, h2⟩ := hold r o ho hr
        exact ⟨r, o', c, h1, h2.trans hmu, hbk _ _ _ hb⟩
      have hMB : ∀ b, MB E (lk O') bs' b → MB E (lk O) bs b := fun b hb => hb.imp id (hmb b)
      have vm : ∀ {v : Value} {u : AV}, V w (MB E (lk O) bs) bs v u → V w (MB E (lk O') bs') bs' v u := fun h =>
        h.step_ (fun b _ hb hb' => hb (hMB b hb')) (fun _ _ _ => rfl) (Nat.le_refl _) _ hbs
      have hS : Step w (MB E (lk O) bs) bs w (MB E (lk O') bs') bs' := ⟨hbs, fun b _ hb hb' => hb (hMB b hb'), fun _ _ _ => rfl, Nat.le_refl _⟩
      refine ⟨bs', ⟨⟨hF.1, hF.2.1, fun i u hu => ?_⟩, ?_⟩, fun r hr => ?_, Nat.le_succ_of_le hm⟩
      · obtain ⟨v, hv, hV⟩ := hF.2.2 i u hu
        exact ⟨v, hv, vm hV⟩
      · exact {
          obj := fun r o ho => by
            rcases hlk r o ho with ⟨rfl, rfl⟩ | ⟨hne, rfl, rfl⟩ | ⟨hne, ho⟩
            · exact .inl ⟨up_same _ _ _, rfl⟩
            · obtain ⟨b, c, vs, q1, q2, q3, q4, q5⟩ := hW.obj r _ hd
              refine ⟨b, c, vs, hbs _ _ q1, q2, by rw [List.length_set]; exact q3, q4, fun j v u hv hu => ?_⟩
              by_cases hj : j0 = j
              · subst hj
                have hlt : j0 < cs.length := by
                  rcases Nat.lt_or_ge j0 cs.length with h | h
                  · exact h
                  · rw [List.getElem?_eq_none h] at hnil; cases hnil
                rw [List.getElem?_set_self hlt] at hu
                obtain rfl := Option.some.inj hu
                have hV := q5 j0 v _ hv hnil
                cases hV
                exact .ownnil (up_same _ _ _) rfl
              · rw [List.getElem?_set_ne hj] at hu
                exact vm (q5 j v u hv hu)
            · exact (hW.obj r o ho).step hS fun _ _ _ => rfl
          sep := fun r r' o1 o2 b c c' h1 h2 m1 m2 b1 b2 => by
            have hr : r ≠ nx := fun e => by
              subst e
              have := hbk _ _ _ b1
              rw [hb0] at this; cases this
            have hr' : r' ≠ nx := fun e => by
              subst e
              have := hbk _ _ _ b2
              rw [hb0] at this; cases this
            obtain ⟨o1', p1, p2⟩ := hold r o1 h1 hr
            obtain ⟨o2', p3, p4⟩ := hold r' o2 h2 hr'
            exact hW.sep r r' o1' o2' b c c' p1 p3 (p2.trans m1) (p4.trans m2) (hbk _ _ _ b1) (hbk _ _ _ b2)
          out := fun b hb => hW.out b (hmb b hb)
          frz := fun r t' sz' n f b c ho hb hM => by
            rcases hlk r _ ho with ⟨rfl, h⟩ | ⟨hne, rfl, h⟩ | ⟨hne, ho⟩
            · cases h
            · cases h
            · exact hW.frz r t' sz' n f b c ho (hbk _ _ _ hb) (hMB b hM)
          high := fun b hb => hW.high b (hMB b hb)
          lt := fun r b c hb => hW.lt r b c (hbk _ _ _ hb)
          outlt := hW.outlt
          keep := hW.keep
          old := fun b hb => hW.old b (hmb b hb)
          size := hW.size
          pre := fun r x hr hb => hbs r x (hW.pre r x hr hb)
          os := hW.os
          tape := hW.tape
          output := hW.output
          laid := hW.laid
          gle := hW.gle }
      · have hr' : nx + 1 ≤ r := hr
        obtain ⟨q1, q2⟩ := hnx r (show nx ≤ r by omega)
        refine ⟨?_, ?_⟩
        · show lk O' r = none
          cases ho : lk O' r with
          | none => rfl
          | some o =>
            obtain ⟨o', p1, _⟩ := hold r o ho (by omega)
            rw [q1] at p1; cases p1
        · show up bs nx .nil r = none
          rw [up_other _ _ _ (by omega)]; exact q2
    · exact ⟨bs, h⟩
  · exact ⟨bs, h⟩

theorem AWP.ownNilC {C : Ctx} {m N : Nat} {c : Code} {Q : Exit → St → Prop} {s : St} (r j t sz : Nat) (h : AWP C m N c Q (Eng.ownNilC r j t sz s)) : AWP C m N c Q s := by
  intro E hE bs a w hr
  obtain ⟨bs', hr'⟩ := hr.ownNilC r j t sz
  exact h E hE bs' a w hr'

theorem rowsEqR : ∀ O : List (Nat × AObj), RowsEq O O
  | [] => trivial
  | (r, o) :: l => by
    have ih := rowsEqR l
    cases o
    case row => exact ⟨⟨rfl, rfl, rfl, rfl, rfl, fun _ _ => rfl⟩, ih⟩
    all_goals exact ⟨rfl, ih⟩

/-- The nil slice in the cell j behind the pointer in slot d. -/
def ownNilP (d j t sz : Nat) (s : St) : St := match lk s.T d with
  | some (.ptr r i) => Eng.ownNilC r (i + j) t sz s
  | _ => s
theorem AWP.ownNilP {C : Ctx} {m N : Nat} {c : Code} {Q : Exit → St → Prop} {s : St} (d j t sz : Nat) (h : AWP C m N c Q (Eng.ownNilP d j t sz s)) : AWP C m N c Q s := by
  unfold Eng.ownNilP at h
  split at h
  · exact AWP.ownNilC _ _ t sz h
  · exact h

end Go.Eng
/- A nil slice in a cell, told as data of no element. -/
namespace Go.Eng

def nilVC (r j sz : Nat) (f : Nat → List AV) (s : St) : St := match lk s.O r with
  | some (.cells cs ct) => match isNilAt cs j with
    | true => ⟨s.T, (r, .cells (cs.set j (.view sz 0 f)) ct) :: rm r s.O, s.nx, []⟩
    | false => s
  | _ => s

theorem RepS.nilVC {C : Ctx} {E : Ent} {N : Nat} {s : St} {bs : Nat → Option Hd} {a : Act} {w : World} (r0 j0 sz : Nat) (f : Nat → List AV) (h : RepS C E N s bs a w) : RepS C E N (nilVC r0 j0 sz f s) bs a w := by
  unfold Eng.nilVC
  split
  · rename_i cs ct hd
    split
    · rename_i hnil
      have hnil : cs[j0]? = some .nil := by
        unfold isNilAt at hnil
        split at hnil
        · assumption
        · cases hnil
      obtain ⟨T, O, nx, dec⟩ := s
      obtain ⟨⟨hF, hW⟩, hnx, hm⟩ := h
      have hd : lk O r0 = some (.cells cs ct) := hd
      let O' : List (Nat × AObj) := (r0, .cells (cs.set j0 (.view sz 0 f)) ct) :: rm r0 O
      have hlk : ∀ r o, lk O' r = some o → (r = r0 ∧ o = .cells (cs.set j0 (.view sz 0 f)) ct) ∨ (r ≠ r0 ∧ lk O r = some o) := fun r o ho => by
        have ho : lk ((r0, .cells (cs.set j0 (.view sz 0 f)) ct) :: rm r0 O) r = some o := ho
        rw [lk_rm, lk_cons] at ho
        split at ho
        · rename_i e
          have e : r0 = r := e
          exact .inl ⟨e.symm, (Option.some.inj ho).symm⟩
        · rename_i e
          exact .inr ⟨fun e' => e e'.symm, ho⟩
      have hback : ∀ r o, lk O r = some o → ∃ o', lk O' r = some o' ∧ o'.mut = o.mut := fun r o ho => by
        show ∃ o', lk ((r0, .cells (cs.set j0 (.view sz 0 f)) ct) :: rm r0 O) r = some o' ∧ o'.mut = o.mut
        rw [lk_rm, lk_cons]
        by_cases e : r0 = r
        · subst e
          rw [hd] at ho
          obtain rfl := Option.some.inj ho
          exact ⟨.cells (cs.set j0 (.view sz 0 f)) ct, by simp, rfl⟩
        · exact ⟨o, by simp [e, ho], rfl⟩
      have hold : ∀ r o, lk O' r = some o → ∃ o', lk O r = some o' ∧ o'.mut = o.mut := fun r o ho => by
        rcases hlk r o ho with ⟨rfl, rfl⟩ | ⟨_, h2⟩
        · exact ⟨_, hd, rfl⟩
        · exact ⟨_, h2, rfl⟩
      have hMB : MB E (lk O') bs = MB E (lk O) bs := by
        funext b
        apply propext
        constructor
        · rintro (h | ⟨r, o, c, h1, h2, h3⟩)
          · exact .inl h
          · obtain ⟨o', q1, q2⟩ := hold r o h1
            exact .inr ⟨r, o', c, q1, q2.trans h2, h3⟩
        · rintro (h | ⟨r, o, c, h1, h2, h3⟩)
          · exact .inl h
          · obtain ⟨o', q1, q2⟩ := hback r o h1
            exact .inr ⟨r, o', c, q1, q2.trans h2, h3⟩
      have hmb : ∀ b, mutB (lk O') bs b → mutB (lk O) bs b := fun b ⟨r, o, c, h1, h2, h3⟩ => by
        obtain ⟨o', q1, q2⟩ := hold r o h1
        exact ⟨r, o', c, q1, q2.trans h2, h3⟩
      refine ⟨⟨?_, ?_⟩, fun r hr => ⟨?_, (hnx r hr).2⟩, hm⟩
      · show FRep w (MB E (lk O') bs) bs N (lk T) a
        rw [hMB]; exact hF
      · exact {
          obj := fun r o ho => by
            rw [hMB]
            rcases hlk r o ho with ⟨rfl, rfl⟩ | ⟨hne, ho⟩
            · obtain ⟨b, c, vs, q1, q2, q3, q4, q5⟩ := hW.obj r _ hd
              refine ⟨b, c, vs, q1, q2, by rw [List.length_set]; exact q3, q4, fun j v u hv hu => ?_⟩
              by_cases hj : j0 = j
              · subst hj
                have hlt : j0 < cs.length := by
                  rcases Nat.lt_or_ge j0 cs.length with h | h
                  · exact h
                  · rw [List.getElem?_eq_none h] at hnil; cases hnil
                rw [List.getElem?_set_self hlt] at hu
                obtain rfl := Option.some.inj hu
                have hV := q5 j0 v _ hv hnil
                cases hV
                exact .view ⟨0, 0, none⟩ (fun _ _ => undef) (Nat.le_refl _) (Nat.zero_le _) (fun h => by omega) (fun i hi => by omega) (fun i hi => by omega) (fun i hi => by omega) (fun i hi => by omega)
              · rw [List.getElem?_set_ne hj] at hu
                exact q5 j v u hv hu
            · exact hW.obj r o ho
          sep := fun r r' o1 o2 b c c' h1 h2 m1 m2 b1 b2 => by
            obtain ⟨o1', p1, p2⟩ := hold r o1 h1
            obtain ⟨o2', p3, p4⟩ := hold r' o2 h2
            exact hW.sep r r' o1' o2' b c c' p1 p3 (p2.trans m1) (p4.trans m2) b1 b2
          out := fun b hb => hW.out b (hmb b hb)
          frz := fun r t' sz' n f b c ho hb => by
            rw [hMB]
            rcases hlk r _ ho with ⟨rfl, h⟩ | ⟨hne, ho⟩
            · cases h
            · exact hW.frz r t' sz' n f b c ho hb
          high := fun b hb => hW.high b (by rw [← hMB]; exact hb)
          lt := hW.lt
          outlt := hW.outlt
          keep := hW.keep
          old := fun b hb => hW.old b (hmb b hb)
          size := hW.size
          pre := hW.pre
          os := hW.os
          tape := hW.tape
          output := hW.output
          laid := hW.laid
          gle := hW.gle }
      · show lk O' r = none
        cases ho : lk O' r with
        | none => rfl
        | some o =>
          obtain ⟨o', p1, _⟩ := hold r o ho
          rw [(hnx r hr).1] at p1; cases p1
    · exact h
  · exact h

theorem AWP.nilVC {C : Ctx} {m N : Nat} {c : Code} {Q : Exit → St → Prop} {s : St} (r j sz : Nat) (f : Nat → List AV) (h : AWP C m N c Q (Eng.nilVC r j sz f s)) : AWP C m N c Q s := by
  intro E hE bs a w hr
  exact h E hE bs a w (hr.nilVC r j sz f)

/-- The nil slice in the cell j behind the pointer in slot d. -/
def nilVP (d j sz : Nat) (f : Nat → List AV) (s : St) : St := match lk s.T d with
  | some (.ptr r i) => Eng.nilVC r (i + j) sz f s
  | _ => s
theorem AWP.nilVP {C : Ctx} {m N : Nat} {c : Code} {Q : Exit → St → Prop} {s : St} (d j sz : Nat) (f : Nat → List AV) (h : AWP C m N c Q (Eng.nilVP d j sz f s)) : AWP C m N c Q s := by
  unfold Eng.nilVP at h
  split at h
  · exact AWP.nilVC _ _ sz f h
  · exact h

end Go.Eng
/- A row of the answer that nobody writes any more, told as plain data. -/
namespace Go.Eng

theorem lk_rmv {α : Type} (d : Nat) : ∀ (l : List (Nat × α)) (i : Nat) (u : α), lk (rm d l) i = some u → d ≠ i ∧ lk l i = some u
  | [], i, u, h => by cases h
  | (j, x) :: l, i, u, h => by
    simp only [rm] at h
    split at h
    · rename_i e
      have e := Nat.eq_of_beq_eq_true e
      obtain ⟨h1, h2⟩ := lk_rmv d l i u h
      refine ⟨h1, ?_⟩
      rw [lk_cons]
      have : ¬ j = i := fun q => h1 (e.symm.trans q)
      simp only [this, if_false]; exact h2
    · rename_i e
      rw [lk_cons] at h ⊢
      have hjd : ¬ j = d := fun q => by subst q; rw [Nat.beq_refl] at e; cases e
      by_cases q : j = i
      · simp only [q, if_true] at h ⊢
        exact ⟨fun q' => hjd (q.trans q'.symm), h⟩
      · simp only [q, if_false] at h ⊢
        exact lk_rmv d l i u h

/-- The answer with the row r told as data. -/
def frzA (r sz n : Nat) (f : Nat → List AV) : AV → AV
  | .agg cs => .agg (cs.map (frz r sz n f))
  | u => frz r sz n f u
def frzC (r sz n : Nat) (f : Nat → List AV) : AV → AV
  | .tuple cs => .tuple (cs.map (frzA r sz n f))
  | u => frzA r sz n f u

section
variable {C : Ctx} {E : Ent} {O : Nat → Option AObj} {bs : Nat → Option Hd} {w : World} {r : Nat} {t : TypeId} {sz n : Nat} {f : Nat → List AV}

theorem V.frz (hW : WRep C E O bs w) (hr0 : O r = some (.row t sz n f true)) (hf : ∀ i, i < n → nrefL (f i) = true) : ∀ {v u}, V w (MB E O bs) bs v u → V w (MB E O bs) bs v (Eng.frz r sz n f u) := by
  have hrow := hW.obj r _ hr0
  intro v u hV
  cases u with
  | own r' n' =>
    simp only [Eng.frz]
    split
    · rename_i hc
      simp only [Bool.and_eq_true] at hc
      have hr := Nat.eq_of_beq_eq_true hc.1
      have hn' : n' ≤ n := Nat.le_of_ble_eq_true hc.2
      subst hr
      cases hV with
      | own hb hn hcm =>
        rename_i b c
        rcases hrow with ⟨h1, _⟩ | ⟨b', c', vs, h1, h2, h3, h4, h5, h6, h7, h8⟩
        · rw [h1] at hb; cases hb
        · rw [h1] at hb
          injection hb with hb
          injection hb with e1 e2
          subst e1; subst e2
          have hlt : b' < w.heap.size := (Array.getElem?_eq_some_iff.1 h2).1
          have inb : ∀ i, i < n' → ∀ j, j < sz → i * sz + j < vs.size := by
            intro i hi j hj
            rw [h5]
            have : (i + 1) * sz ≤ c' * sz := Nat.mul_le_mul_right sz (by omega)
            rw [Nat.add_mul, Nat.one_mul] at this
            omega
          refine .view ⟨b', 0, none⟩ (fun i j => vs.getD (i * sz + j) undef) hn hcm (fun _ => ⟨rfl, hW.frz _ t sz n f _ _ hr0 h1, hlt⟩) (fun i hi => h6 i (by omega)) (fun i hi j hj => ?_) (fun i hi j hj => ?_) fun i hi j u hu => ?_
          · have := inb i hi j hj
            rw [Addr.add_lit, Nat.zero_add, cell_of_row w b' (i * sz + j) vs t (0, 0) h2]
            simp [this]
          · have := inb i hi j hj
            exact h7 i (by omega) j hj _ (by simp [this])
          · have hj : j < sz := by rw [← h6 i (by omega)]; exact (List.getElem?_eq_some_iff.1 hu).1
            have := inb i hi j hj
            exact (h8 i (by omega) j _ u hj (by simp [this]) hu).free (fun _ _ h => h) (fun _ _ _ => rfl) (Nat.le_refl _) nob (nrefL_get (hf i (by omega)) j u hu)
      | ownnil hb hn =>
        subst hn
        exact .view ⟨0, 0, none⟩ (fun _ _ => undef) (Nat.le_refl _) (Nat.zero_le _) (fun h => by omega) (fun i hi => by omega) (fun i hi => by omega) (fun i hi => by omega) (fun i hi => by omega)
    · exact hV
  | _ => exact hV

theorem V.frzA (hW : WRep C E O bs w) (hr0 : O r = some (.row t sz n f true)) (hf : ∀ i, i < n → nrefL (f i) = true) {v : Value} {u : AV} (h : V w (MB E O bs) bs v u) : V w (MB E O bs) bs v (Eng.frzA r sz n f u) := by
  cases u with
  | agg cs =>
    cases h with
    | agg hl h1 hv =>
      refine .agg (by rw [List.length_map]; exact hl) h1 fun j v u hj hu => ?_
      rw [List.getElem?_map] at hu
      obtain ⟨u0, hu0, rfl⟩ := Option.map_eq_some_iff.1 hu
      exact V.frz hW hr0 hf (hv j v u0 hj hu0)
  | _ => exact V.frz hW hr0 hf h
theorem V.frzC (hW : WRep C E O bs w) (hr0 : O r = some (.row t sz n f true)) (hf : ∀ i, i < n → nrefL (f i) = true) {v : Value} {u : AV} (h : V w (MB E O bs) bs v u) : V w (MB E O bs) bs v (Eng.frzC r sz n f u) := by
  cases u with
  | tuple cs =>
    cases h with
    | tuple hl hv =>
      refine .tuple (by rw [List.length_map]; exact hl) fun j v u hj hu => ?_
      rw [List.getElem?_map] at hu
      obtain ⟨u0, hu0, rfl⟩ := Option.map_eq_some_iff.1 hu
      exact V.frzA hW hr0 hf (hv j v u0 hj hu0)
  | _ => exact V.frzA hW hr0 hf h

/-- Objects forgotten. -/
theorem WRep.less {O' : Nat → Option AObj} (hW : WRep C E O bs w) (hO : ∀ k o, O' k = some o → O k = some o) : Step w (MB E O bs) bs w (MB E O' bs) bs ∧ WRep C E O' bs w := by
  have hmb : ∀ b, mutB O' bs b → mutB O bs b := fun b ⟨r, o, c, h1, h2, h3⟩ => ⟨r, o, c, hO r o h1, h2, h3⟩
  have hMB : ∀ b, MB E O' bs b → MB E O bs b := fun b hb => hb.imp id (hmb b)
  have hS : Step w (MB E O bs) bs w (MB E O' bs) bs := ⟨fun _ _ h => h, fun b _ hb hb' => hb (hMB b hb'), fun _ _ _ => rfl, Nat.le_refl _⟩
  exact ⟨hS, {
    obj := fun r o ho => (hW.obj r o (hO r o ho)).step hS fun _ _ _ => rfl
    sep := fun r r' o1 o2 b c c' h1 h2 m1 m2 b1 b2 => hW.sep r r' o1 o2 b c c' (hO _ _ h1) (hO _ _ h2) m1 m2 b1 b2
    out := fun b hb => hW.out b (hmb b hb)
    frz := fun r t' sz' n f b c ho hb hM => hW.frz r t' sz' n f b c (hO _ _ ho) hb (hMB b hM)
    high := fun b hb => hW.high b (hMB b hb)
    lt := hW.lt
    outlt := hW.outlt
    keep := hW.keep
    old := fun b hb => hW.old b (hmb b hb)
    size := hW.size
    pre := hW.pre
    os := hW.os
    tape := hW.tape
    output := hW.output
    laid := hW.laid
    gle := hW.gle }⟩
end

/-- A row of the answer told as data: 'R' asks for that. -/
def frzR (r : Nat) (R : AV → List (Nat × AObj) → Prop) (u : AV) (O : List (Nat × AObj)) : Prop :=
  ∃ t sz n g fr, lk O r = some (.row t sz n g fr) ∧ (∀ i, i < n → nrefL (g i) = true) ∧ R (frzC r sz n g u) (rm r O)

theorem ACalls.frz {C : Ctx} {f : FuncId} {args : List AV} {objs : List AObj} {R : AV → List (Nat × AObj) → Prop} (r : Nat) (h : ACalls C f args objs (frzR r R)) : ACalls C f args objs R := by
  refine ⟨h.1, fun E bs w cargs h1 h2 h3 h4 h5 h6 h7 => ?_⟩
  refine (h.2 E bs w cargs h1 h2 h3 h4 h5 h6 h7).mono ?_
  rintro e w' ⟨v, u, O', bs', r1, ⟨t, sz, n, g, fr, hO, hg, hR⟩, r3, r4, r5⟩
  obtain ⟨hS, hW1⟩ := r3.freeze hO
  have hV := V.frzC hW1 (up_same _ _ _) hg (r4.step hS)
  obtain ⟨hS2, hW2⟩ := hW1.less (O' := lk (rm r O')) fun k o hk => by
    obtain ⟨q1, q2⟩ := lk_rmv r O' k o hk
    rw [up_other _ _ _ q1]; exact q2
  refine ⟨v, _, rm r O', bs', r1, hR, hW2, hV.step hS2, fun k hk => ⟨?_, (r5 k hk).2⟩⟩
  cases hx : lk (rm r O') k with
  | none => rfl
  | some o =>
    have := (lk_rmv r O' k o hx).2
    rw [(r5 k hk).1] at this; cases this

end Go.Eng
