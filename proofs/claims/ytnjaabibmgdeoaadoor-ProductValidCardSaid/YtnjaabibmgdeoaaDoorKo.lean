/- Lemmas that the tied card of ProductValid is proved by. -/
import Derived.Test.YtnjaabibmgdeoaaDoorKk
import Derived.Test.YtnjaabibmgdeoaaDoorKn
import Derived.Test.YtnjaabibmgdeoaaDoorKm
/- Contents of packages: plain functions. -/
namespace Go.Eng

def qtyF (d c a : Int) : Int := bif decide (d < 1) then 80 else bif decide (4 < d) then 80 else bif decide (c < 1) then 81 else bif decide (100 < c) then 81 else bif decide (a < 1) then 82 else bif decide (Int.tdiv 1099511627776 c < a) then 82 else 0
def S_qty : Spec
  | [.agg [.int .i64 d, .int .i64 c, .int .i64 a]], [] => some (.int .i64 (qtyF d c a), [], True)
  | _, _ => none
theorem qty_bound {c : Int} (h1 : ¬ c < 1) (h2 : ¬ 100 < c) : c ≠ 0 ∧ inR .i64 (Int.tdiv 1099511627776 c) := by
  refine ⟨by omega, ?_⟩
  rw [Int.tdiv_eq_ediv_of_nonneg (by omega)]
  simp only [inR]
  have h3 : 0 ≤ 1099511627776 / c := Int.ediv_nonneg (by omega) (by omega)
  have h4 : 1099511627776 / c ≤ 1099511627776 := Int.ediv_le_self _ (by omega)
  omega

end Go.Eng

/- Contents of packages. -/
namespace Go.Eng
open Go.Proofs Go.RowKit
set_option maxRecDepth 20000
theorem nf_qty (d c a : Int) (R : AV → List (Nat × AObj) → Prop) : wpFn te [] [] 0 Tryd.f24 [.agg [.int .i64 d, .int .i64 c, .int .i64 a]] [] R = (condP (decide (d < (1 : Int))) (R (.int .i64 80) []) (condP (decide ((4 : Int) < d)) (R (.int .i64 80) []) (condP (decide (c < (1 : Int))) (R (.int .i64 81) []) (condP (decide ((100 : Int) < c)) (R (.int .i64 81) []) (condP (decide (a < (1 : Int))) (R (.int .i64 82) []) ((c ≠ (0 : Int) ∧ inR .i64 (Int.tdiv (1099511627776 : Int) c)) ∧ condP (decide (Int.tdiv (1099511627776 : Int) c < a)) (R (.int .i64 82) []) (R (.int .i64 0) []))))))) := by kernel_rfl
theorem nf_qtyR (d c a : Int) (R : AV → List (Nat × AObj) → Prop) : wpFn te [] [] 0 Tryd.f28 [.agg [.int .i64 d, .int .i64 c, .int .i64 a]] [] R = (condP (decide (d < (1 : Int))) (R (.int .i64 80) []) (condP (decide ((4 : Int) < d)) (R (.int .i64 80) []) (condP (decide (c < (1 : Int))) (R (.int .i64 81) []) (condP (decide ((100 : Int) < c)) (R (.int .i64 81) []) (condP (decide (a < (1 : Int))) (R (.int .i64 82) []) ((c ≠ (0 : Int) ∧ inR .i64 (Int.tdiv (1099511627776 : Int) c)) ∧ condP (decide (Int.tdiv (1099511627776 : Int) c < a)) (R (.int .i64 82) []) (R (.int .i64 0) []))))))) := by kernel_rfl
variable {C : Ctx}

theorem qty_ok (hP : C.P = Tryd.prog) : SpecOK C 24 S_qty := by
  rintro args objs U Os vc h hvc
  unfold S_qty at h
  split at h <;> simp only [Option.some.injEq, Prod.mk.injEq, reduceCtorEq] at h
  rename_i d c a
  obtain ⟨rfl, rfl, rfl⟩ := h
  refine SpecOK.wp0 (prg hP) [] 0 .nil (hP ▸ Tryd.func24) rfl rfl rfl ?_
  rw [nf_qty]
  refine condP_intro (fun h1 => ?_) (fun h1 => condP_intro (fun h2 => ?_) (fun h2 => condP_intro (fun h3 => ?_) (fun h3 => condP_intro (fun h4 => ?_) (fun h4 => condP_intro (fun h5 => ?_) (fun h5 => ⟨qty_bound (of_decide_eq_false h3) (of_decide_eq_false h4), condP_intro (fun h6 => ?_) (fun h6 => ?_)⟩)))))
  all_goals simp only [qtyF, *, cond_true, cond_false, and_self]

theorem qtyR_ok (hP : C.P = Tryd.prog) : SpecOK C 28 S_qty := by
  rintro args objs U Os vc h hvc
  unfold S_qty at h
  split at h <;> simp only [Option.some.injEq, Prod.mk.injEq, reduceCtorEq] at h
  rename_i d c a
  obtain ⟨rfl, rfl, rfl⟩ := h
  refine SpecOK.wp0 (prg hP) [] 0 .nil (hP ▸ Tryd.func28) rfl rfl rfl ?_
  rw [nf_qtyR]
  refine condP_intro (fun h1 => ?_) (fun h1 => condP_intro (fun h2 => ?_) (fun h2 => condP_intro (fun h3 => ?_) (fun h3 => condP_intro (fun h4 => ?_) (fun h4 => condP_intro (fun h5 => ?_) (fun h5 => ⟨qty_bound (of_decide_eq_false h3) (of_decide_eq_false h4), condP_intro (fun h6 => ?_) (fun h6 => ?_)⟩)))))
  all_goals simp only [qtyF, *, cond_true, cond_false, and_self]

end Go.Eng

/- The reference of the products: plain functions. -/
namespace Go.Eng

def OKat (s : List UInt8) (k : Nat) : Prop := (97 ≤ (s.getD k 0).toNat ∧ (s.getD k 0).toNat ≤ 122) ∨ (48 ≤ (s.getD k 0).toNat ∧ (s.getD k 0).toNat ≤ 57) ∨ (k ≠ 0 ∧ ((s.getD k 0).toNat = 45 ∨ (s.getD k 0).toNat = 46))
def S_nrState (s : List UInt8) (k : Nat) : St := ⟨[(0, .str s), (6, .int .i64 s.length), (7, .int .i64 k)], [], 0, []⟩
def L_nameR (s : List UInt8) : LSpec := fun st Q => canonIs te 0 [0, 6, 7] st (S_nrState s 0) ∧ ((∀ k, k < s.length → OKat s k) → Q (.exit 0) ⟨[(0, .str s)], [], 0, []⟩) ∧ (∀ k, k < s.length → ¬ OKat s k → Q .ret ⟨[(2, .bool false)], [], 0, []⟩)

def S_nameR : Spec
  | [.str s], [] => some (.bool (nameF s), [], s.length ≤ 9223372036854775806)
  | _, _ => none

theorem nameF_iff (s : List UInt8) : nameF s = true ↔ (1 ≤ s.length ∧ s.length ≤ 24) ∧ ∀ k, k < s.length → OKat s k := by
  have hlet : ∀ b : UInt8, isLet b = true ↔ (97 ≤ b.toNat ∧ b.toNat ≤ 122) ∨ (48 ≤ b.toNat ∧ b.toNat ≤ 57) := by intro b; simp [isLet]
  have hnb : ∀ b : UInt8, isNB b = true ↔ ((97 ≤ b.toNat ∧ b.toNat ≤ 122) ∨ (48 ≤ b.toNat ∧ b.toNat ≤ 57)) ∨ b.toNat = 45 ∨ b.toNat = 46 := by
    intro b; rw [← hlet]; simp [isNB, or_assoc]
  unfold nameF
  simp only [Bool.and_eq_true, decide_eq_true_eq, hlet, List.all_eq_true, hnb]
  constructor
  · rintro ⟨⟨⟨h1, h2⟩, h3⟩, h4⟩
    refine ⟨⟨h1, h2⟩, fun k hk => ?_⟩
    have := h4 (s.getD k 0) (by simp [List.getD, hk])
    by_cases h0 : k = 0
    · subst h0; unfold OKat; omega
    · unfold OKat; omega
  · rintro ⟨⟨h1, h2⟩, h3⟩
    refine ⟨⟨⟨h1, h2⟩, ?_⟩, fun b hb => ?_⟩
    · have := h3 0 (by omega); unfold OKat at this; omega
    · obtain ⟨j, hj, rfl⟩ := List.getElem_of_mem hb
      have := h3 j hj
      have e : s.getD j 0 = s[j] := by simp [List.getD, hj]
      unfold OKat at this
      rw [e] at this
      omega

def S_cdrState (s : List UInt8) (k : Nat) : St := ⟨[(0, .str s), (4, .int .i64 (cdSum s k)), (16, .int .i64 s.length), (17, .int .i64 k)], [], 0, []⟩
def L_checkDigitR (s : List UInt8) : LSpec := fun st Q => canonIs te 0 [0, 4, 16, 17] st (S_cdrState s 0) ∧ s.length ≤ 12 ∧ condP (s.all isDig) (Q (.exit 0) ⟨[(4, .int .i64 (cdSum s s.length))], [], 0, []⟩) (Q .ret ⟨[(2, .int .i64 0), (3, .bool false)], [], 0, []⟩)

theorem cdSum_boundk {s : List UInt8} : ∀ k, k ≤ s.length → (∀ j, j < k → 48 ≤ (s.getD j 0).toNat ∧ (s.getD j 0).toNat ≤ 57) → 0 ≤ cdSum s k ∧ cdSum s k ≤ 27 * k
  | 0, _, _ => by simp [cdSum]
  | k + 1, hk, h => by
    have ih := cdSum_boundk k (by omega) fun j hj => h j (by omega)
    have hd := h k (by omega)
    simp only [cdSum]
    rcases Int.emod_two_eq (↑s.length - ↑k) with e | e <;> rw [e] <;> omega

theorem all_isDig {s : List UInt8} (h : ∀ j, j < s.length → 48 ≤ (s.getD j 0).toNat ∧ (s.getD j 0).toNat ≤ 57) : s.all isDig = true := by
  refine List.all_eq_true.2 fun b hb => ?_
  obtain ⟨j, hj, rfl⟩ := List.getElem_of_mem hb
  have := h j hj
  have e : s.getD j 0 = s[j] := by simp [List.getD, hj]
  rw [e] at this
  simp [isDig, this.1, this.2]

theorem cdF_bound (s : List UInt8) : 0 ≤ (cdF s).1 ∧ (cdF s).1 ≤ 9 := by
  unfold cdF
  split
  · show 0 ≤ (10 - cdSum s s.length % 10) % 10 ∧ (10 - cdSum s s.length % 10) % 10 ≤ 9
    omega
  · exact ⟨by decide, by decide⟩

end Go.Eng

/- The reference of the products. -/
namespace Go.Eng
open Go.Proofs Go.RowKit
set_option maxRecDepth 20000
theorem nf_nameR (s : List UInt8) (R : AV → List (Nat × AObj) → Prop) : wpFn te [] [(2, L_nameR s)] 0 Tryd.f27 [.str s] [] R = (some (St.mk [(0, .str s), (6, .int .i64 (↑(List.length s) : Int)), (7, .int .i64 0)] [] 0 []) = some (St.mk [(0, .str s), (6, .int .i64 (↑(List.length s) : Int)), (7, .int .i64 (↑0 : Int))] [] 0 []) ∧ ((∀ (k : Nat), k < List.length s → OKat s k) → condP (decide ((1 : Int) ≤ (↑(List.length s) : Int))) (R (.bool (decide ((↑(List.length s) : Int) ≤ (24 : Int)))) []) (R (.bool false) [])) ∧ ∀ (k : Nat), k < List.length s → ¬OKat s k → R (.bool false) []) := by kernel_rfl
theorem nf_nameR_round (s : List UInt8) (k : Nat) (P : Nat → Prop) (R : Exit → St → Prop) : roundP ⟨te, [], [], 0, 59, 0⟩ (loopB Tryd.f27 2) [0, 6, 7] [0] [2] (S_nrState s) P R (S_nrState s k) = (condP (decide ((↑k : Int) < (↑(List.length s) : Int))) (((0 : Int) ≤ (↑k : Int) ∧ (↑k : Int) < (↑(List.length s) : Int)) ∧ condP (decide ((97 : Int) ≤ (↑(UInt8.toNat (List.getD s (Int.toNat (↑k : Int)) (0 : UInt8))) : Int))) (((0 : Int) ≤ (↑k : Int) ∧ (↑k : Int) < (↑(List.length s) : Int)) ∧ condP (decide ((↑(UInt8.toNat (List.getD s (Int.toNat (↑k : Int)) (0 : UInt8))) : Int) ≤ (122 : Int))) (inR .i64 ((↑k : Int) + (1 : Int)) ∧ ∃ (i' : Nat), some (St.mk [(0, .str s), (6, .int .i64 (↑(List.length s) : Int)), (7, .int .i64 ((↑k : Int) + (1 : Int)))] [] 0 []) = some (St.mk [(0, .str s), (6, .int .i64 (↑(List.length s) : Int)), (7, .int .i64 (↑i' : Int))] [] 0 []) ∧ P i') (((0 : Int) ≤ (↑k : Int) ∧ (↑k : Int) < (↑(List.length s) : Int)) ∧ condP (decide ((48 : Int) ≤ (↑(UInt8.toNat (List.getD s (Int.toNat (↑k : Int)) (0 : UInt8))) : Int))) (((0 : Int) ≤ (↑k : Int) ∧ (↑k : Int) < (↑(List.length s) : Int)) ∧ condP (!decide ((↑(UInt8.toNat (List.getD s (Int.toNat (↑k : Int)) (0 : UInt8))) : Int) ≤ (57 : Int))) (condP (decide ((↑k : Int) = (0 : Int))) (R .ret (St.mk [(2, .bool false)] [] 0 [])) (((0 : Int) ≤ (↑k : Int) ∧ (↑k : Int) < (↑(List.length s) : Int)) ∧ condP (!decide ((↑(UInt8.toNat (List.getD s (Int.toNat (↑k : Int)) (0 : UInt8))) : Int) = (45 : Int))) (((0 : Int) ≤ (↑k : Int) ∧ (↑k : Int) < (↑(List.length s) : Int)) ∧ condP (!decide ((↑(UInt8.toNat (List.getD s (Int.toNat (↑k : Int)) (0 : UInt8))) : Int) = (46 : Int))) (R .ret (St.mk [(2, .bool false)] [] 0 [])) (inR .i64 ((↑k : Int) + (1 : Int)) ∧ ∃ (i' : Nat), some (St.mk [(0, .str s), (6, .int .i64 (↑(List.length s) : Int)), (7, .int .i64 ((↑k : Int) + (1 : Int)))] [] 0 []) = some (St.mk [(0, .str s), (6, .int .i64 (↑(List.length s) : Int)), (7, .int .i64 (↑i' : Int))] [] 0 []) ∧ P i')) (inR .i64 ((↑k : Int) + (1 : Int)) ∧ ∃ (i' : Nat), some (St.mk [(0, .str s), (6, .int .i64 (↑(List.length s) : Int)), (7, .int .i64 ((↑k : Int) + (1 : Int)))] [] 0 []) = some (St.mk [(0, .str s), (6, .int .i64 (↑(List.length s) : Int)), (7, .int .i64 (↑i' : Int))] [] 0 []) ∧ P i'))) (inR .i64 ((↑k : Int) + (1 : Int)) ∧ ∃ (i' : Nat), some (St.mk [(0, .str s), (6, .int .i64 (↑(List.length s) : Int)), (7, .int .i64 ((↑k : Int) + (1 : Int)))] [] 0 []) = some (St.mk [(0, .str s), (6, .int .i64 (↑(List.length s) : Int)), (7, .int .i64 (↑i' : Int))] [] 0 []) ∧ P i')) (condP (decide ((↑k : Int) = (0 : Int))) (R .ret (St.mk [(2, .bool false)] [] 0 [])) (((0 : Int) ≤ (↑k : Int) ∧ (↑k : Int) < (↑(List.length s) : Int)) ∧ condP (!decide ((↑(UInt8.toNat (List.getD s (Int.toNat (↑k : Int)) (0 : UInt8))) : Int) = (45 : Int))) (((0 : Int) ≤ (↑k : Int) ∧ (↑k : Int) < (↑(List.length s) : Int)) ∧ condP (!decide ((↑(UInt8.toNat (List.getD s (Int.toNat (↑k : Int)) (0 : UInt8))) : Int) = (46 : Int))) (R .ret (St.mk [(2, .bool false)] [] 0 [])) (inR .i64 ((↑k : Int) + (1 : Int)) ∧ ∃ (i' : Nat), some (St.mk [(0, .str s), (6, .int .i64 (↑(List.length s) : Int)), (7, .int .i64 ((↑k : Int) + (1 : Int)))] [] 0 []) = some (St.mk [(0, .str s), (6, .int .i64 (↑(List.length s) : Int)), (7, .int .i64 (↑i' : Int))] [] 0 []) ∧ P i')) (inR .i64 ((↑k : Int) + (1 : Int)) ∧ ∃ (i' : Nat), some (St.mk [(0, .str s), (6, .int .i64 (↑(List.length s) : Int)), (7, .int .i64 ((↑k : Int) + (1 : Int)))] [] 0 []) = some (St.mk [(0, .str s), (6, .int .i64 (↑(List.length s) : Int)), (7, .int .i64 (↑i' : Int))] [] 0 []) ∧ P i'))))) (((0 : Int) ≤ (↑k : Int) ∧ (↑k : Int) < (↑(List.length s) : Int)) ∧ condP (decide ((48 : Int) ≤ (↑(UInt8.toNat (List.getD s (Int.toNat (↑k : Int)) (0 : UInt8))) : Int))) (((0 : Int) ≤ (↑k : Int) ∧ (↑k : Int) < (↑(List.length s) : Int)) ∧ condP (!decide ((↑(UInt8.toNat (List.getD s (Int.toNat (↑k : Int)) (0 : UInt8))) : Int) ≤ (57 : Int))) (condP (decide ((↑k : Int) = (0 : Int))) (R .ret (St.mk [(2, .bool false)] [] 0 [])) (((0 : Int) ≤ (↑k : Int) ∧ (↑k : Int) < (↑(List.length s) : Int)) ∧ condP (!decide ((↑(UInt8.toNat (List.getD s (Int.toNat (↑k : Int)) (0 : UInt8))) : Int) = (45 : Int))) (((0 : Int) ≤ (↑k : Int) ∧ (↑k : Int) < (↑(List.length s) : Int)) ∧ condP (!decide ((↑(UInt8.toNat (List.getD s (Int.toNat (↑k : Int)) (0 : UInt8))) : Int) = (46 : Int))) (R .ret (St.mk [(2, .bool false)] [] 0 [])) (inR .i64 ((↑k : Int) + (1 : Int)) ∧ ∃ (i' : Nat), some (St.mk [(0, .str s), (6, .int .i64 (↑(List.length s) : Int)), (7, .int .i64 ((↑k : Int) + (1 : Int)))] [] 0 []) = some (St.mk [(0, .str s), (6, .int .i64 (↑(List.length s) : Int)), (7, .int .i64 (↑i' : Int))] [] 0 []) ∧ P i')) (inR .i64 ((↑k : Int) + (1 : Int)) ∧ ∃ (i' : Nat), some (St.mk [(0, .str s), (6, .int .i64 (↑(List.length s) : Int)), (7, .int .i64 ((↑k : Int) + (1 : Int)))] [] 0 []) = some (St.mk [(0, .str s), (6, .int .i64 (↑(List.length s) : Int)), (7, .int .i64 (↑i' : Int))] [] 0 []) ∧ P i'))) (inR .i64 ((↑k : Int) + (1 : Int)) ∧ ∃ (i' : Nat), some (St.mk [(0, .str s), (6, .int .i64 (↑(List.length s) : Int)), (7, .int .i64 ((↑k : Int) + (1 : Int)))] [] 0 []) = some (St.mk [(0, .str s), (6, .int .i64 (↑(List.length s) : Int)), (7, .int .i64 (↑i' : Int))] [] 0 []) ∧ P i')) (condP (decide ((↑k : Int) = (0 : Int))) (R .ret (St.mk [(2, .bool false)] [] 0 [])) (((0 : Int) ≤ (↑k : Int) ∧ (↑k : Int) < (↑(List.length s) : Int)) ∧ condP (!decide ((↑(UInt8.toNat (List.getD s (Int.toNat (↑k : Int)) (0 : UInt8))) : Int) = (45 : Int))) (((0 : Int) ≤ (↑k : Int) ∧ (↑k : Int) < (↑(List.length s) : Int)) ∧ condP (!decide ((↑(UInt8.toNat (List.getD s (Int.toNat (↑k : Int)) (0 : UInt8))) : Int) = (46 : Int))) (R .ret (St.mk [(2, .bool false)] [] 0 [])) (inR .i64 ((↑k : Int) + (1 : Int)) ∧ ∃ (i' : Nat), some (St.mk [(0, .str s), (6, .int .i64 (↑(List.length s) : Int)), (7, .int .i64 ((↑k : Int) + (1 : Int)))] [] 0 []) = some (St.mk [(0, .str s), (6, .int .i64 (↑(List.length s) : Int)), (7, .int .i64 (↑i' : Int))] [] 0 []) ∧ P i')) (inR .i64 ((↑k : Int) + (1 : Int)) ∧ ∃ (i' : Nat), some (St.mk [(0, .str s), (6, .int .i64 (↑(List.length s) : Int)), (7, .int .i64 ((↑k : Int) + (1 : Int)))] [] 0 []) = some (St.mk [(0, .str s), (6, .int .i64 (↑(List.length s) : Int)), (7, .int .i64 (↑i' : Int))] [] 0 []) ∧ P i'))))) (R (.exit 0) (St.mk [(0, .str s)] [] 0 []))) := by kernel_rfl
theorem nf_cdR (s : List UInt8) (R : AV → List (Nat × AObj) → Prop) : wpFn te [] [(5, L_checkDigitR s)] 0 Tryd.f30 [.str s] [] R = (condP (!decide ((↑(List.length s) : Int) = (7 : Int))) (condP (!decide ((↑(List.length s) : Int) = (12 : Int))) (R (.tuple [.int .i64 0, .bool false]) []) (some (St.mk [(0, .str s), (4, .int .i64 0), (16, .int .i64 (↑(List.length s) : Int)), (17, .int .i64 0)] [] 0 []) = some (St.mk [(0, .str s), (4, .int .i64 (cdSum s 0)), (16, .int .i64 (↑(List.length s) : Int)), (17, .int .i64 (↑0 : Int))] [] 0 []) ∧ List.length s ≤ 12 ∧ condP (List.all s isDig) ((10 : Int) ≠ (0 : Int) ∧ inR .i64 ((10 : Int) - Int.tmod (cdSum s (List.length s)) (10 : Int)) ∧ (10 : Int) ≠ (0 : Int) ∧ R (.tuple [.int .i64 (Int.tmod ((10 : Int) - Int.tmod (cdSum s (List.length s)) (10 : Int)) (10 : Int)), .bool true]) []) (R (.tuple [.int .i64 0, .bool false]) []))) (some (St.mk [(0, .str s), (4, .int .i64 0), (16, .int .i64 (↑(List.length s) : Int)), (17, .int .i64 0)] [] 0 []) = some (St.mk [(0, .str s), (4, .int .i64 (cdSum s 0)), (16, .int .i64 (↑(List.length s) : Int)), (17, .int .i64 (↑0 : Int))] [] 0 []) ∧ List.length s ≤ 12 ∧ condP (List.all s isDig) ((10 : Int) ≠ (0 : Int) ∧ inR .i64 ((10 : Int) - Int.tmod (cdSum s (List.length s)) (10 : Int)) ∧ (10 : Int) ≠ (0 : Int) ∧ R (.tuple [.int .i64 (Int.tmod ((10 : Int) - Int.tmod (cdSum s (List.length s)) (10 : Int)) (10 : Int)), .bool true]) []) (R (.tuple [.int .i64 0, .bool false]) []))) := by kernel_rfl
theorem nf_cdR_round (s : List UInt8) (k : Nat) (P : Nat → Prop) (R : Exit → St → Prop) : roundP ⟨te, [], [], 0, 50, 0⟩ (loopB Tryd.f30 5) [0, 4, 16, 17] [4] [2, 3] (S_cdrState s) P R (S_cdrState s k) = (condP (decide ((↑k : Int) < (↑(List.length s) : Int))) (((0 : Int) ≤ (↑k : Int) ∧ (↑k : Int) < (↑(List.length s) : Int)) ∧ condP (decide ((↑(UInt8.toNat (List.getD s (Int.toNat (↑k : Int)) (0 : UInt8))) : Int) < (48 : Int))) (R .ret (St.mk [(2, .int .i64 0), (3, .bool false)] [] 0 [])) (((0 : Int) ≤ (↑k : Int) ∧ (↑k : Int) < (↑(List.length s) : Int)) ∧ condP (decide ((57 : Int) < (↑(UInt8.toNat (List.getD s (Int.toNat (↑k : Int)) (0 : UInt8))) : Int))) (R .ret (St.mk [(2, .int .i64 0), (3, .bool false)] [] 0 [])) (inR .i64 ((↑(List.length s) : Int) - (↑k : Int)) ∧ (2 : Int) ≠ (0 : Int) ∧ condP (decide (Int.tmod ((↑(List.length s) : Int) - (↑k : Int)) (2 : Int) = (1 : Int))) (((0 : Int) ≤ (↑k : Int) ∧ (↑k : Int) < (↑(List.length s) : Int)) ∧ inR .i64 (((↑(UInt8.toNat (List.getD s (Int.toNat (↑k : Int)) (0 : UInt8))) : Int) - (48 : Int)) % (256 : Int)) ∧ inR .i64 ((3 : Int) * (((↑(UInt8.toNat (List.getD s (Int.toNat (↑k : Int)) (0 : UInt8))) : Int) - (48 : Int)) % (256 : Int))) ∧ inR .i64 (cdSum s k + (3 : Int) * (((↑(UInt8.toNat (List.getD s (Int.toNat (↑k : Int)) (0 : UInt8))) : Int) - (48 : Int)) % (256 : Int))) ∧ inR .i64 ((↑k : Int) + (1 : Int)) ∧ ∃ (i' : Nat), some (St.mk [(0, .str s), (4, .int .i64 (cdSum s k + (3 : Int) * (((↑(UInt8.toNat (List.getD s (Int.toNat (↑k : Int)) (0 : UInt8))) : Int) - (48 : Int)) % (256 : Int)))), (16, .int .i64 (↑(List.length s) : Int)), (17, .int .i64 ((↑k : Int) + (1 : Int)))] [] 0 []) = some (St.mk [(0, .str s), (4, .int .i64 (cdSum s i')), (16, .int .i64 (↑(List.length s) : Int)), (17, .int .i64 (↑i' : Int))] [] 0 []) ∧ P i') (((0 : Int) ≤ (↑k : Int) ∧ (↑k : Int) < (↑(List.length s) : Int)) ∧ inR .i64 (((↑(UInt8.toNat (List.getD s (Int.toNat (↑k : Int)) (0 : UInt8))) : Int) - (48 : Int)) % (256 : Int)) ∧ inR .i64 ((1 : Int) * (((↑(UInt8.toNat (List.getD s (Int.toNat (↑k : Int)) (0 : UInt8))) : Int) - (48 : Int)) % (256 : Int))) ∧ inR .i64 (cdSum s k + (1 : Int) * (((↑(UInt8.toNat (List.getD s (Int.toNat (↑k : Int)) (0 : UInt8))) : Int) - (48 : Int)) % (256 : Int))) ∧ inR .i64 ((↑k : Int) + (1 : Int)) ∧ ∃ (i' : Nat), some (St.mk [(0, .str s), (4, .int .i64 (cdSum s k + (1 : Int) * (((↑(UInt8.toNat (List.getD s (Int.toNat (↑k : Int)) (0 : UInt8))) : Int) - (48 : Int)) % (256 : Int)))), (16, .int .i64 (↑(List.length s) : Int)), (17, .int .i64 ((↑k : Int) + (1 : Int)))] [] 0 []) = some (St.mk [(0, .str s), (4, .int .i64 (cdSum s i')), (16, .int .i64 (↑(List.length s) : Int)), (17, .int .i64 (↑i' : Int))] [] 0 []) ∧ P i')))) (R (.exit 0) (St.mk [(4, .int .i64 (cdSum s k))] [] 0 []))) := by kernel_rfl
theorem nf_validIDR (s : List UInt8) (R : AV → List (Nat × AObj) → Prop) : wpFn te [(30, .det S_checkDigit)] [] 0 Tryd.f25 [.str s] [] R = (condP (!decide ((↑(List.length s) : Int) = (8 : Int))) (condP (!decide ((↑(List.length s) : Int) = (13 : Int))) (R (.bool false) []) (inR .i64 ((↑(List.length s) : Int) - (1 : Int)) ∧ ((0 : Int) ≤ (↑(List.length s) : Int) - (1 : Int) ∧ (↑(List.length s) : Int) - (1 : Int) ≤ (↑(List.length s) : Int)) ∧ True ∧ condP (Prod.snd (cdF (List.take (Int.toNat ((↑(List.length s) : Int) - (1 : Int))) s))) (inR .i64 ((↑(List.length s) : Int) - (1 : Int)) ∧ ((0 : Int) ≤ (↑(List.length s) : Int) - (1 : Int) ∧ (↑(List.length s) : Int) - (1 : Int) < (↑(List.length s) : Int)) ∧ inR .i64 ((48 : Int) + Prod.fst (cdF (List.take (Int.toNat ((↑(List.length s) : Int) - (1 : Int))) s))) ∧ inR .u8 ((48 : Int) + Prod.fst (cdF (List.take (Int.toNat ((↑(List.length s) : Int) - (1 : Int))) s))) ∧ R (.bool (decide ((↑(UInt8.toNat (List.getD s (Int.toNat ((↑(List.length s) : Int) - (1 : Int))) (0 : UInt8))) : Int) = (48 : Int) + Prod.fst (cdF (List.take (Int.toNat ((↑(List.length s) : Int) - (1 : Int))) s))))) []) (R (.bool false) []))) (inR .i64 ((↑(List.length s) : Int) - (1 : Int)) ∧ ((0 : Int) ≤ (↑(List.length s) : Int) - (1 : Int) ∧ (↑(List.length s) : Int) - (1 : Int) ≤ (↑(List.length s) : Int)) ∧ True ∧ condP (Prod.snd (cdF (List.take (Int.toNat ((↑(List.length s) : Int) - (1 : Int))) s))) (inR .i64 ((↑(List.length s) : Int) - (1 : Int)) ∧ ((0 : Int) ≤ (↑(List.length s) : Int) - (1 : Int) ∧ (↑(List.length s) : Int) - (1 : Int) < (↑(List.length s) : Int)) ∧ inR .i64 ((48 : Int) + Prod.fst (cdF (List.take (Int.toNat ((↑(List.length s) : Int) - (1 : Int))) s))) ∧ inR .u8 ((48 : Int) + Prod.fst (cdF (List.take (Int.toNat ((↑(List.length s) : Int) - (1 : Int))) s))) ∧ R (.bool (decide ((↑(UInt8.toNat (List.getD s (Int.toNat ((↑(List.length s) : Int) - (1 : Int))) (0 : UInt8))) : Int) = (48 : Int) + Prod.fst (cdF (List.take (Int.toNat ((↑(List.length s) : Int) - (1 : Int))) s))))) []) (R (.bool false) []))) := by kernel_rfl

variable {C : Ctx}

theorem nameR_loop (hP : C.P = Tryd.prog) (s : List UInt8) (hm : s.length ≤ 9223372036854775806) : LoopOK C 0 59 (loopC Tryd.f27 2) (L_nameR s) := by
  rintro st Q ⟨h0, hQ1, hQ2⟩
  refine LoopOK.mk (prg hP) [] 0 .nil [0, 6, 7] [0] [2] (S_nrState s) (fun k => k ≤ s.length ∧ ∀ j, j < k → OKat s j) (fun k => s.length - k) 0 ⟨Nat.zero_le _, fun j h => by omega⟩ h0 fun k ⟨hk, hall⟩ => ?_
  rw [nf_nameR_round]
  refine condP_dec (fun h => ?_) (fun h => ?_)
  · have hlt : k < s.length := by omega
    have hret : ¬ OKat s k → Q .ret ⟨[(2, .bool false)], [], 0, []⟩ := hQ2 k hlt
    have hgo : OKat s k → ∃ i' : Nat, some (St.mk [(0, .str s), (6, .int .i64 (s.length : Int)), (7, .int .i64 ((k : Int) + 1))] [] 0 []) = some (St.mk [(0, .str s), (6, .int .i64 (s.length : Int)), (7, .int .i64 (i' : Int))] [] 0 []) ∧ (i' ≤ s.length ∧ ∀ j, j < i' → OKat s j) ∧ s.length - i' < s.length - k := fun hok =>
      ⟨k + 1, rfl, ⟨by omega, fun j hj => by
        rcases Nat.lt_succ_iff_lt_or_eq.1 hj with hj | rfl
        · exact hall j hj
        · exact hok⟩, by omega⟩
    unfold OKat at hret hgo
    simp only [Int.toNat_natCast, inR]
    repeat' (first | (refine condP_dec (fun _ => ?_) (fun _ => ?_)) | (refine condP_ndec (fun _ => ?_) (fun _ => ?_)) | (refine And.intro (by omega) ?_) | fail)
    all_goals (first | exact hret (by omega) | exact hgo (by omega))
  · exact hQ1 fun j hj => hall j (by omega)

theorem nameR_ok (hP : C.P = Tryd.prog) : SpecOK C 27 S_nameR := by
  rintro args objs U Os vc h hvc
  unfold S_nameR at h
  split at h <;> simp only [Option.some.injEq, Prod.mk.injEq, reduceCtorEq] at h
  rename_i s
  obtain ⟨rfl, rfl, rfl⟩ := h
  refine SpecOK.wpL (prg hP) [] [(2, L_nameR s)] 0 .nil (hP ▸ Tryd.func27) rfl rfl rfl [(loopC Tryd.f27 2, L_nameR s)] (by kernel_rfl) ⟨nameR_loop hP s hvc, trivial⟩ ?_
  rw [nf_nameR]
  refine ⟨rfl, fun hall => condP_dec (fun h1 => ⟨congrArg AV.bool ?_, rfl⟩) (fun h1 => ⟨congrArg AV.bool ?_, rfl⟩), fun k hk hno => ⟨congrArg AV.bool ?_, rfl⟩⟩
  · by_cases h2 : s.length ≤ 24
    · rw [(nameF_iff s).2 ⟨⟨by omega, h2⟩, hall⟩]; exact decide_eq_true (by omega)
    · rw [decide_eq_false (by omega)]
      cases hn : nameF s with
      | false => rfl
      | true => exact absurd ((nameF_iff s).1 hn).1.2 h2
  · cases hn : nameF s with
    | false => rfl
    | true => exact absurd ((nameF_iff s).1 hn).1.1 (by omega)
  · cases hn : nameF s with
    | false => rfl
    | true => exact absurd (((nameF_iff s).1 hn).2 k hk) hno

theorem cdR_loop (hP : C.P = Tryd.prog) (s : List UInt8) : LoopOK C 0 50 (loopC Tryd.f30 5) (L_checkDigitR s) := by
  rintro st Q ⟨h0, hlen, hQ⟩
  have hQ := condP_elim hQ
  refine LoopOK.mk (prg hP) [] 0 .nil [0, 4, 16, 17] [4] [2, 3] (S_cdrState s) (fun k => k ≤ s.length ∧ ∀ j, j < k → 48 ≤ (s.getD j 0).toNat ∧ (s.getD j 0).toNat ≤ 57) (fun k => s.length - k) 0 ⟨Nat.zero_le _, fun j h => by omega⟩ h0 fun k ⟨hk, hall⟩ => ?_
  rw [nf_cdR_round]
  have hb := cdSum_boundk k hk hall
  refine condP_dec (fun h => ?_) (fun h => ?_)
  · have hlt : k < s.length := by omega
    have hret : ¬ (48 ≤ (s.getD k 0).toNat ∧ (s.getD k 0).toNat ≤ 57) → Q .ret ⟨[(2, .int .i64 0), (3, .bool false)], [], 0, []⟩ := fun hno => hQ.2 (by
      cases ha : s.all isDig with
      | false => rfl
      | true => exact absurd (isDig_at ha k hlt) hno)
    have e : Int.tmod (↑s.length - ↑k) 2 = (↑s.length - ↑k) % 2 := Int.tmod_eq_emod_of_nonneg (by omega)
    have hs : cdSum s (k + 1) = cdSum s k + (1 + 2 * ((↑s.length - ↑k) % 2)) * (↑(s.getD k 0).toNat - 48) := rfl
    have hgo : (48 ≤ (s.getD k 0).toNat ∧ (s.getD k 0).toNat ≤ 57) → (k + 1 ≤ s.length ∧ ∀ j, j < k + 1 → 48 ≤ (s.getD j 0).toNat ∧ (s.getD j 0).toNat ≤ 57) ∧ s.length - (k + 1) < s.length - k := fun hok =>
      ⟨⟨by omega, fun j hj => by
        rcases Nat.lt_succ_iff_lt_or_eq.1 hj with hj | rfl
        · exact hall j hj
        · exact hok⟩, by omega⟩
    simp only [Int.toNat_natCast, inR, e]
    refine ⟨by omega, condP_dec (fun h1 => hret (by omega)) (fun h1 => ⟨by omega, condP_dec (fun h2 => hret (by omega)) (fun h2 => ⟨by omega, by omega, ?_⟩)⟩)⟩
    have hgo := hgo (by omega)
    have e3 : ((s.getD k 0).toNat - 48 : Int) % 256 = (s.getD k 0).toNat - 48 := by omega
    rw [e3]
    refine condP_dec (fun h3 => ?_) (fun h3 => ?_)
    · rw [h3] at hs
      exact ⟨by omega, by omega, by omega, by omega, by omega, k + 1, by rw [hs]; rfl, hgo⟩
    · have h3 : (↑s.length - ↑k : Int) % 2 = 0 := by omega
      rw [h3] at hs
      exact ⟨by omega, by omega, by omega, by omega, by omega, k + 1, by rw [hs]; rfl, hgo⟩
  · have hks : k = s.length := by omega
    rw [hks]
    exact hQ.1 (all_isDig fun j hj => hall j (by omega))

theorem cdR_ok (hP : C.P = Tryd.prog) : SpecOK C 30 S_checkDigit := by
  rintro args objs U Os vc h hvc
  unfold S_checkDigit at h
  split at h <;> simp only [Option.some.injEq, Prod.mk.injEq, reduceCtorEq] at h
  rename_i s
  obtain ⟨rfl, rfl, rfl⟩ := h
  refine SpecOK.wpL (prg hP) [] [(5, L_checkDigitR s)] 0 .nil (hP ▸ Tryd.func30) rfl rfl rfl [(loopC Tryd.f30 5, L_checkDigitR s)] (by kernel_rfl) ⟨cdR_loop hP s, trivial⟩ ?_
  rw [nf_cdR]
  have main : (s.length = 7 ∨ s.length = 12) → condP (s.all isDig) ((10 : Int) ≠ 0 ∧ inR .i64 (10 - Int.tmod (cdSum s s.length) 10) ∧ (10 : Int) ≠ 0 ∧ AV.tuple [.int .i64 (Int.tmod (10 - Int.tmod (cdSum s s.length) 10) 10), .bool true] = .tuple [.int .i64 (cdF s).1, .bool (cdF s).2] ∧ ([] : List (Nat × AObj)) = [])
      (AV.tuple [.int .i64 0, .bool false] = .tuple [.int .i64 (cdF s).1, .bool (cdF s).2] ∧ ([] : List (Nat × AObj)) = []) := by
    intro hl
    have hd : digitsF s 7 12 = s.all isDig := by
      unfold digitsF
      rcases hl with h | h <;> simp [h]
    refine condP_intro (fun ha => ?_) (fun ha => ?_)
    · have hb := cdSum_bound ha s.length (Nat.le_refl _)
      have e : Int.tmod (cdSum s s.length) 10 = cdSum s s.length % 10 := Int.tmod_eq_emod_of_nonneg (by omega)
      rw [e, Int.tmod_eq_emod_of_nonneg (by omega)]
      refine ⟨by omega, by simp only [inR]; omega, by omega, ?_, rfl⟩
      simp [cdF, hd, ha]
    · refine ⟨?_, rfl⟩
      simp [cdF, hd, ha]
  refine condP_ndec (fun h1 => condP_ndec (fun h2 => ⟨?_, rfl⟩) (fun h2 => ⟨rfl, by omega, main (by omega)⟩)) (fun h1 => ⟨rfl, by omega, main (by omega)⟩)
  have hd : digitsF s 7 12 = false := by unfold digitsF; rw [decide_eq_false h1, decide_eq_false h2]; rfl
  simp [cdF, hd]

theorem validIDR_ok (hP : C.P = Tryd.prog) : SpecOK C 25 S_validID := by
  rintro args objs U Os vc h hvc
  unfold S_validID at h
  split at h <;> simp only [Option.some.injEq, Prod.mk.injEq, reduceCtorEq] at h
  rename_i s
  obtain ⟨rfl, rfl, rfl⟩ := h
  refine SpecOK.wp0 (prg hP) [(30, .det S_checkDigit)] 0 (.cons (cdR_ok hP) .nil) (hP ▸ Tryd.func25) rfl rfl rfl ?_
  rw [nf_validIDR]
  have e1 : ∀ h : s.length = 8 ∨ s.length = 13, (↑s.length - 1 : Int).toNat = s.length - 1 := by intro h; omega
  have hcd := cdF_bound (s.take (s.length - 1))
  have last : (s.length = 8 ∨ s.length = 13) → (s.all isDig = ((cdF (s.take (s.length - 1))).2 && isDig (s.getD (s.length - 1) 0))) := by
    intro hl
    have h2 : (cdF (s.take (s.length - 1))).2 = (s.take (s.length - 1)).all isDig := by
      have hd : digitsF (s.take (s.length - 1)) 7 12 = (s.take (s.length - 1)).all isDig := by
        unfold digitsF
        have : (s.take (s.length - 1)).length = s.length - 1 := by simp
        rcases hl with h | h <;> simp [this, h]
      unfold cdF
      rw [hd]
      cases (s.take (s.length - 1)).all isDig <;> rfl
    have hs : s = s.take (s.length - 1) ++ [s.getD (s.length - 1) 0] := by
      have hlt : s.length - 1 < s.length := by omega
      have := (List.take_append_drop (s.length - 1) s).symm
      rw [List.drop_eq_getElem_cons hlt] at this
      have e : s.getD (s.length - 1) 0 = s[s.length - 1] := by simp [List.getD, hlt]
      rw [e]
      have hd : List.drop (s.length - 1 + 1) s = [] := List.drop_eq_nil_of_le (by omega)
      rw [hd] at this
      exact this
    rw [h2]
    conv => lhs; rw [hs]
    simp
  have hv : (s.length = 8 ∨ s.length = 13) → validIDF s = ((cdF (s.take (s.length - 1))).2 && decide ((s.getD (s.length - 1) 0).toNat = 48 + (cdF (s.take (s.length - 1))).1)) := by
    intro hl
    have hd : digitsF s 8 13 = s.all isDig := by
      unfold digitsF
      rcases hl with h | h <;> simp [h]
    unfold validIDF
    rw [hd, last hl]
    cases hc : (cdF (s.take (s.length - 1))).2 with
    | false => rfl
    | true =>
      simp only [Bool.true_and]
      cases hi : isDig (s.getD (s.length - 1) 0) with
      | true =>
        refine decide_eq_decide.2 ?_
        omega
      | false =>
        refine (decide_eq_false fun he => ?_).symm
        simp only [isDig, Bool.and_eq_false_imp, decide_eq_true_eq, decide_eq_false_iff_not] at hi
        omega
  have main : (s.length = 8 ∨ s.length = 13) → condP (cdF (s.take (s.length - 1))).2 (inR .i64 (↑s.length - 1) ∧ (0 ≤ (↑s.length - 1 : Int) ∧ (↑s.length - 1 : Int) < ↑s.length) ∧ inR .i64 (48 + (cdF (s.take (s.length - 1))).1) ∧ inR .u8 (48 + (cdF (s.take (s.length - 1))).1) ∧
      AV.bool (decide ((↑(s.getD (s.length - 1) 0).toNat : Int) = 48 + (cdF (s.take (s.length - 1))).1)) = .bool (validIDF s) ∧ ([] : List (Nat × AObj)) = []) (AV.bool false = .bool (validIDF s) ∧ ([] : List (Nat × AObj)) = []) := by
    intro hl
    rw [hv hl]
    refine condP_intro (fun hc => ?_) (fun hc => ?_)
    · simp only [inR, hc, Bool.true_and]
      exact ⟨by omega, by omega, by omega, by omega, by simp⟩
    · simp [hc]
  refine condP_ndec (fun h1 => condP_ndec (fun h2 => ⟨?_, rfl⟩) (fun h2 => ?_)) (fun h1 => ?_)
  · have hd : digitsF s 8 13 = false := by unfold digitsF; rw [decide_eq_false h1, decide_eq_false h2]; rfl
    simp [validIDF, hd]
  · have hl : s.length = 8 ∨ s.length = 13 := by omega
    rw [e1 hl]
    exact ⟨by simp only [inR]; omega, by omega, trivial, main hl⟩
  · have hl : s.length = 8 ∨ s.length = 13 := by omega
    rw [e1 hl]
    exact ⟨by simp only [inR]; omega, by omega, trivial, main hl⟩

end Go.Eng

