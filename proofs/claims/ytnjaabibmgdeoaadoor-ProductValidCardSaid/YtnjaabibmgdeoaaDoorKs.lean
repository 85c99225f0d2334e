/- Lemmas that the tied card of ProductValid is proved by. -/
import Derived.Test.YtnjaabibmgdeoaaDoorKr
import Derived.Test.YtnjaabibmgdeoaaDoorKj
import Derived.Test.YtnjaabibmgdeoaaDoorKp
import Derived.Test.YtnjaabibmgdeoaaDoorKm
import Derived.Test.YtnjaabibmgdeoaaDoorKo
/- The rows' products cut short: the loop's states. -/
namespace Go.Eng

def t30 (nm : Nat → List UInt8) (i : Nat) : List UInt8 := (nm i).take 30
/-- The loop of raw; F: the view's elements; the cells of the product in the making. -/
def S_raw (id code brand : List UInt8) (d c a : Int) (n : Nat) (nm vl : Nat → List UInt8) (k : Nat) : St := ⟨[(2, .ptr 0 0), (3, .ptr 1 0), (36, .view 2 n (atRow nm vl)), (37, .int .i64 n), (38, .int .i64 k)],
  [(0, .cells [.str [], .str [], .str [], .int .i64 0, .int .i64 0, .int .i64 0, .nil] 26), (1, .cells [.str id, .str code, .str brand, .int .i64 d, .int .i64 c, .int .i64 a, .own 2 k] 26), (2, .row 52 2 k (atRow (t30 nm) (t30 vl)) false)], 3, []⟩
def L_raw (id code brand : List UInt8) (d c a : Int) (n : Nat) (nm vl : Nat → List UInt8) : LSpec := fun st Q => canonIs te 0 [2, 3, 36, 37, 38] (ownNilP 3 6 52 2 st) (S_raw id code brand d c a n nm vl 0) ∧ n ≤ 14 ∧
  Q (.exit 0) ⟨[(2, .ptr 0 0), (3, .ptr 1 0)], [(0, .cells [.str [], .str [], .str [], .int .i64 0, .int .i64 0, .int .i64 0, .nil] 26), (1, .cells [.str id, .str code, .str brand, .int .i64 d, .int .i64 c, .int .i64 a, .own 2 n] 26), (2, .row 52 2 n (atRow (t30 nm) (t30 vl)) false)], 3, []⟩

theorem take_m (s : List UInt8) (k : Int) : s.take (Int.toNat (min (s.length : Int) k)) = s.take k.toNat := by
  rcases Int.le_total (s.length : Int) k with h | h
  · rw [Int.min_eq_left h, Int.toNat_natCast, List.take_length, List.take_of_length_le (by omega)]
  · rw [Int.min_eq_right h]
/-- Cut short: what raw answers. -/
def R_raw : RSpec
  | [.agg [.str id, .str code, .str brand, .int .i64 d, .int .i64 c, .int .i64 a, .nil]], [], R => R (.agg [.str (id.take 20), .str (code.take 20), .str (brand.take 30), .int .i64 d, .int .i64 c, .int .i64 a, .nil]) []
  | [.agg [.str id, .str code, .str brand, .int .i64 d, .int .i64 c, .int .i64 a, .view sz n f]], [], R => sz = 2 ∧ f = atRow (nmOf f) (vlOf f) ∧
      R (.agg [.str (id.take 20), .str (code.take 20), .str (brand.take 30), .int .i64 d, .int .i64 c, .int .i64 a, .own 0 (min n 14)]) [(0, .row 52 2 (min n 14) (atRow (t30 (nmOf f)) (t30 (vlOf f))) false)]
  | _, _, _ => False
end Go.Eng

/- The rows' products cut short. -/
namespace Go.Eng
open Go.Proofs Go.RowKit
variable {C : Ctx}
set_option maxRecDepth 20000
theorem nf_raw0 (id code brand : List UInt8) (d c a : Int) (R : AV → List (Nat × AObj) → Prop) : wpFn te [] [] 2 Tryd.f7 [.agg [.str id, .str code, .str brand, .int .i64 d, .int .i64 c, .int .i64 a, .nil]] [] R = (((0 : Int) ≤ min (↑(List.length id) : Int) (20 : Int) ∧ min (↑(List.length id) : Int) (20 : Int) ≤ (↑(List.length id) : Int)) ∧ ((0 : Int) ≤ min (↑(List.length code) : Int) (20 : Int) ∧ min (↑(List.length code) : Int) (20 : Int) ≤ (↑(List.length code) : Int)) ∧ ((0 : Int) ≤ min (↑(List.length brand) : Int) (30 : Int) ∧ min (↑(List.length brand) : Int) (30 : Int) ≤ (↑(List.length brand) : Int)) ∧ min (0 : Int) (14 : Int) = (0 : Int) ∧ (True ∧ True) ∧ R (.agg [.str (List.take (Int.toNat (min (↑(List.length id) : Int) (20 : Int))) id), .str (List.take (Int.toNat (min (↑(List.length code) : Int) (20 : Int))) code), .str (List.take (Int.toNat (min (↑(List.length brand) : Int) (30 : Int))) brand), .int .i64 d, .int .i64 c, .int .i64 a, .nil]) []) := by kernel_rfl
theorem nf_raw1 (id code brand : List UInt8) (d c a : Int) (n : Nat) (nm vl : Nat → List UInt8) (R : AV → List (Nat × AObj) → Prop) : wpFn te [] [(3, L_raw (id.take 20) (code.take 20) (brand.take 30) d c a (min n 14) nm vl)] 2 Tryd.f7 [.agg [.str id, .str code, .str brand, .int .i64 d, .int .i64 c, .int .i64 a, .view 2 n (atRow nm vl)]] [] R = (((0 : Int) ≤ min (↑(List.length id) : Int) (20 : Int) ∧ min (↑(List.length id) : Int) (20 : Int) ≤ (↑(List.length id) : Int)) ∧ ((0 : Int) ≤ min (↑(List.length code) : Int) (20 : Int) ∧ min (↑(List.length code) : Int) (20 : Int) ≤ (↑(List.length code) : Int)) ∧ ((0 : Int) ≤ min (↑(List.length brand) : Int) (30 : Int) ∧ min (↑(List.length brand) : Int) (30 : Int) ≤ (↑(List.length brand) : Int)) ∧ ((0 : Int) ≤ min (↑n : Int) (14 : Int) ∧ min (↑n : Int) (14 : Int) ≤ (↑n : Int)) ∧ (TEq [(2, .ptr 0 0), (3, .ptr 1 0), (36, .view 2 (Int.toNat (min (↑n : Int) (14 : Int))) (atRow nm vl)), (37, .int .i64 (↑(Int.toNat (min (↑n : Int) (14 : Int))) : Int)), (38, .int .i64 0)] [(2, .ptr 0 0), (3, .ptr 1 0), (36, .view 2 (min n 14) (atRow nm vl)), (37, .int .i64 (↑(min n 14) : Int)), (38, .int .i64 (↑0 : Int))] ∧ RowsEq [(0, .cells [.str [], .str [], .str [], .int .i64 0, .int .i64 0, .int .i64 0, .nil] 26), (1, .cells [.str (List.take (Int.toNat (min (↑(List.length id) : Int) (20 : Int))) id), .str (List.take (Int.toNat (min (↑(List.length code) : Int) (20 : Int))) code), .str (List.take (Int.toNat (min (↑(List.length brand) : Int) (30 : Int))) brand), .int .i64 d, .int .i64 c, .int .i64 a, .own 2 0] 26), (2, .row 52 2 0 (fun (x : Nat) => []) false)] [(0, .cells [.str [], .str [], .str [], .int .i64 0, .int .i64 0, .int .i64 0, .nil] 26), (1, .cells [.str (List.take 20 id), .str (List.take 20 code), .str (List.take 30 brand), .int .i64 d, .int .i64 c, .int .i64 a, .own 2 0] 26), (2, .row 52 2 0 (atRow (t30 nm) (t30 vl)) false)]) ∧ min n 14 ≤ 14 ∧ (True ∧ True) ∧ (∀ (i : Nat), i < min n 14 → true = true) ∧ ∃ (O' : List (Nat × AObj)), RowsEq [(0, .row 52 2 (min n 14) (atRow (t30 nm) (t30 vl)) false)] O' ∧ R (.agg [.str (List.take 20 id), .str (List.take 20 code), .str (List.take 30 brand), .int .i64 d, .int .i64 c, .int .i64 a, .own 0 (min n 14)]) O') := by kernel_rfl
theorem nf_raw_round (id code brand : List UInt8) (d c a : Int) (n : Nat) (nm vl : Nat → List UInt8) (k : Nat) (P : Nat → Prop) (R : Exit → St → Prop) : roundP ⟨te, [], [], 0, 64, 0⟩ (loopB Tryd.f7 3) [2, 3, 36, 37, 38] [2, 3] [] (S_raw id code brand d c a n nm vl) P R (S_raw id code brand d c a n nm vl k) = (condP (decide ((↑k : Int) < (↑n : Int))) (((0 : Int) ≤ (↑k : Int) ∧ (↑k : Int) < (↑n : Int) ∧ 2 = 2) ∧ ((0 : Int) ≤ min (↑(List.length (nm (Int.toNat (↑k : Int)))) : Int) (30 : Int) ∧ min (↑(List.length (nm (Int.toNat (↑k : Int)))) : Int) (30 : Int) ≤ (↑(List.length (nm (Int.toNat (↑k : Int)))) : Int)) ∧ ((0 : Int) ≤ min (↑(List.length (vl (Int.toNat (↑k : Int)))) : Int) (30 : Int) ∧ min (↑(List.length (vl (Int.toNat (↑k : Int)))) : Int) (30 : Int) ≤ (↑(List.length (vl (Int.toNat (↑k : Int)))) : Int)) ∧ (2 ≤ 16777216 ∧ 2 = 2 ∧ 1 ≤ 9223372036854775807) ∧ ((1 ≤ 1 ∧ 2 = 2) ∧ k ≤ k ∧ 2 = 2 ∧ 52 = 52 ∧ 2 = 2 ∧ k + 1 ≤ 9223372036854775807 ∧ (k + 1) * TI.bytes (TI.mk (TypeDesc.struct #[Field.mk "Name" (9 : TypeId) 0 false "" "" 0, Field.mk "Value" (9 : TypeId) 1 false "" "" 16]) 2 32 (Value.agg #[Value.string (ByteArray.mk #[]), Value.string (ByteArray.mk #[])]) true) ≤ 140737488355328) ∧ inR .i64 ((↑k : Int) + (1 : Int)) ∧ ∃ (i' : Nat), (TEq [(2, .ptr 0 0), (3, .ptr 1 0), (36, .view 2 n (atRow nm vl)), (37, .int .i64 (↑n : Int)), (38, .int .i64 ((↑k : Int) + (1 : Int)))] [(2, .ptr 0 0), (3, .ptr 1 0), (36, .view 2 n (atRow nm vl)), (37, .int .i64 (↑n : Int)), (38, .int .i64 (↑i' : Int))] ∧ RowsEq [(0, .cells [.str [], .str [], .str [], .int .i64 0, .int .i64 0, .int .i64 0, .nil] 26), (1, .cells [.str id, .str code, .str brand, .int .i64 d, .int .i64 c, .int .i64 a, .own 2 (k + 1)] 26), (2, .row 52 2 (k + 1) (apF k (atRow (t30 nm) (t30 vl)) (chunkA (TI.sz (TI.mk (TypeDesc.struct #[Field.mk "Name" (9 : TypeId) 0 false "" "" 0, Field.mk "Value" (9 : TypeId) 1 false "" "" 16]) 2 32 (Value.agg #[Value.string (ByteArray.mk #[]), Value.string (ByteArray.mk #[])]) true)) (.str (List.take (Int.toNat (min (↑(List.length (nm (Int.toNat (↑k : Int)))) : Int) (30 : Int))) (nm (Int.toNat (↑k : Int)))) :: .str (List.take (Int.toNat (min (↑(List.length (vl (Int.toNat (↑k : Int)))) : Int) (30 : Int))) (vl (Int.toNat (↑k : Int)))) :: List.append [] (List.flatten (List.replicate (nat_lit 0) [.str ([]), .str ([])]))))) false)] [(0, .cells [.str [], .str [], .str [], .int .i64 0, .int .i64 0, .int .i64 0, .nil] 26), (1, .cells [.str id, .str code, .str brand, .int .i64 d, .int .i64 c, .int .i64 a, .own 2 i'] 26), (2, .row 52 2 i' (atRow (t30 nm) (t30 vl)) false)]) ∧ P i') ((∀ (i : Nat), i < k → true = true) ∧ ∃ (O' : List (Nat × AObj)), RowsEq [(0, .cells [.str [], .str [], .str [], .int .i64 0, .int .i64 0, .int .i64 0, .nil] 26), (1, .cells [.str id, .str code, .str brand, .int .i64 d, .int .i64 c, .int .i64 a, .own 2 k] 26), (2, .row 52 2 k (atRow (t30 nm) (t30 vl)) false)] O' ∧ R (.exit 0) (St.mk [(2, .ptr 0 0), (3, .ptr 1 0)] O' 3 []))) := by kernel_rfl
theorem raw_loop (hP : C.P = Tryd.prog) (id code brand : List UInt8) (d c a : Int) (n : Nat) (nm vl : Nat → List UInt8) : LoopOK C 0 64 (loopC Tryd.f7 3) (L_raw id code brand d c a n nm vl) := by
  rintro st Q ⟨h0, hn, hQ⟩
  refine AWP.ownNilP 3 6 52 2 ?_
  refine LoopOK.mk (prg hP) [] 0 .nil [2, 3, 36, 37, 38] [2, 3] [] (S_raw id code brand d c a n nm vl) (fun k => k ≤ n) (fun k => n - k) 0 (by omega) h0 (fun k hk => ?_) (fun i => ⟨fun _ _ => rfl, trivial⟩)
  rw [nf_raw_round]
  refine condP_dec (fun h1 => ?_) (fun h1 => ⟨fun _ _ => rfl, _, rowsEqR _, ?_⟩)
  · have hrow : ∀ f : Nat → List AV, ∀ x y : List UInt8, ∀ i, i < k + 1 → f k = [.str x, .str y] → apF k f (chunkA 2 (.str x :: .str y :: List.append [] (List.flatten (List.replicate (nat_lit 0) [.str ([]), .str ([])])))) i = f i := by
      intro f x y i hi hf
      unfold apF
      split
      · rfl
      · have : i = k := by omega
        subst this
        rw [Nat.sub_self, hf]; rfl
    rw [take_m, take_m, Int.toNat_natCast]
    refine ⟨⟨by omega, by omega, rfl⟩, ⟨by omega, by omega⟩, ⟨by omega, by omega⟩, ⟨by omega, rfl, by omega⟩, ⟨⟨by omega, rfl⟩, Nat.le_refl _, rfl, rfl, rfl, by omega, ?_⟩, by simp only [inR]; omega, k + 1, ⟨rfl, rfl, rfl, ⟨rfl, rfl, rfl, rfl, rfl, fun i hi => ?_⟩, trivial⟩, by omega, by omega⟩
    · show (k + 1) * 32 ≤ _
      omega
    · exact hrow (atRow (t30 nm) (t30 vl)) _ _ i hi rfl
  · have : k = n := by omega
    subst this
    exact hQ

theorem raw_ok (hP : C.P = Tryd.prog) : RSpecOK C 7 R_raw := by
  rintro args objs R h
  unfold R_raw at h
  split at h
  · rename_i id code brand d c a
    refine RSpecOK.wpL (prg hP) [] [] 2 .nil (hP ▸ Tryd.func7) rfl rfl rfl [] (by kernel_rfl) trivial ?_
    rw [nf_raw0, take_m, take_m, take_m]
    exact ⟨⟨by omega, by omega⟩, ⟨by omega, by omega⟩, ⟨by omega, by omega⟩, by omega, ⟨trivial, trivial⟩, h⟩
  · rename_i id code brand d c a sz n f
    obtain ⟨rfl, hf, hR⟩ := h
    rw [hf]
    generalize nmOf f = nm at *
    generalize vlOf f = vl at *
    refine RSpecOK.wpL (prg hP) [] [(3, L_raw (id.take 20) (code.take 20) (brand.take 30) d c a (min n 14) nm vl)] 2 .nil (hP ▸ Tryd.func7) rfl rfl rfl [(loopC Tryd.f7 3, L_raw (id.take 20) (code.take 20) (brand.take 30) d c a (min n 14) nm vl)] (by kernel_rfl) ⟨raw_loop hP _ _ _ d c a _ nm vl, trivial⟩ ?_
    rw [nf_raw1, take_m, take_m, take_m]
    have hm : (min (n : Int) (14 : Int)).toNat = min n 14 := by omega
    rw [hm]
    exact ⟨⟨by omega, by omega⟩, ⟨by omega, by omega⟩, ⟨by omega, by omega⟩, ⟨by omega, by omega⟩, ⟨rfl, rfl, rfl, ⟨rfl, rfl, rfl, rfl, rfl, fun i hi => by omega⟩, trivial⟩, by omega, ⟨trivial, trivial⟩, fun _ _ => rfl, _, rowsEq1, hR⟩
  · exact h.elim

end Go.Eng

/- The tape: what its methods answer. -/
namespace Go.Eng

def foldV (n k : Int) : Int := n % 18446744073709551616 % k
def S_fold : Spec
  | [.int .i64 n, .int .i64 k], [] => some (.int .i64 (foldV n k), [], 1 ≤ k ∧ k ≤ 1000000)
  | _, _ => none
def nextV (n : Nat) (v : Nat → Int) (a k : Int) : Int := foldV (bif decide (a < n) then v a.toNat else 0) k
/-- Next: a number below k; the tape moves on. -/
def S_next : Spec
  | [.ptr 0 0, .int .i64 k], [.cells [.view sz n f, .int .i64 a] t] => some (.int .i64 (nextV n (vInt f) a k), [(0, .cells [.view 1 n f, .int .i64 (a + 1)] 31)], t = 31 ∧ sz = 1 ∧ f = intRow (vInt f) ∧ (1 ≤ k ∧ k ≤ 1000000) ∧ (0 ≤ a ∧ a ≤ 4611686018427387904))
  | _, _ => none
/-- ID: seven digits and the check digit. -/
def pw (V j : Nat) : Nat := V / 10 ^ j
def dgI (V k : Nat) : Int := 48 + ((V / 10 ^ (6 - k) % 10 : Nat) : Int)
def idRow (V : Nat) (k : Nat) : List AV := [.int .u8 (dgI V k)]
def idV (n : Int) : Nat := 1000000 + (foldV n 1000000).toNat
def id7 (n : Int) : List UInt8 := bytesA 7 (idRow (idV n))
def idF (n : Int) : List UInt8 := id7 n ++ [UInt8.ofNat (48 + (cdF (id7 n)).1).toNat]
def S_id : Spec
  | [.int .i64 n], [] => some (.str (idF n), [], True)
  | _, _ => none
def S_idl (V : Nat) (j : Nat) : St := ⟨[(3, .int .i64 (pw V j : Nat)), (4, .own 0 7), (5, .int .i64 (6 - (j : Int)))], [(0, .row 5 1 7 (fun k => [.int .u8 (bif decide (7 ≤ k + j) then dgI V k else 0)]) false)], 1, []⟩
def L_id (V : Nat) : LSpec := fun st Q => canonIs te 0 [3, 4, 5] st (S_idl V 0) ∧ V < 2000000 ∧
  Q (.exit 0) ⟨[(4, .own 0 7)], [(0, .row 5 1 7 (idRow V) false)], 1, []⟩

theorem foldV_range {k : Int} (h : 1 ≤ k) (n : Int) : 0 ≤ foldV n k ∧ foldV n k < k := by
  unfold foldV
  exact ⟨Int.emod_nonneg _ (by omega), Int.emod_lt_of_pos _ (by omega)⟩
theorem nextV_range {k : Int} (h : 1 ≤ k) (n : Nat) (v : Nat → Int) (a : Int) : 0 ≤ nextV n v a k ∧ nextV n v a k < k := foldV_range h _
theorem cdF_range (s : List UInt8) : 0 ≤ (cdF s).1 ∧ (cdF s).1 ≤ 9 := by
  unfold cdF
  split
  · show 0 ≤ (10 - cdSum s s.length % 10) % 10 ∧ (10 - cdSum s s.length % 10) % 10 ≤ 9
    omega
  · exact ⟨by decide, by decide⟩
theorem id7_len (n : Int) : (id7 n).length = 7 := by simp [id7, bytesA]
theorem idF_len (n : Int) : (idF n).length = 8 := by rw [idF, List.length_append, id7_len]; rfl
theorem dgI_range (V k : Nat) : 48 ≤ dgI V k ∧ dgI V k ≤ 57 := by
  unfold dgI
  have := Nat.mod_lt (V / 10 ^ (6 - k)) (show 0 < 10 by omega)
  omega
end Go.Eng

/- The tape. -/
namespace Go.Eng
open Go.Proofs Go.RowKit
variable {C : Ctx}
set_option maxRecDepth 20000
theorem nf_fold (n k : Int) (R : AV → List (Nat × AObj) → Prop) : wpFn te [] [] 0 Tryd.f11 [.int .i64 n, .int .i64 k] [] R = (True ∧ True ∧ IntKind.wrap IntKind.u64 (max k (1 : Int)) ≠ (0 : Int) ∧ inR .i64 (Int.tmod (IntKind.wrap IntKind.u64 n) (IntKind.wrap IntKind.u64 (max k (1 : Int)))) ∧ R (.int .i64 (Int.tmod (IntKind.wrap IntKind.u64 n) (IntKind.wrap IntKind.u64 (max k (1 : Int))))) []) := by kernel_rfl
theorem nf_next (n : Nat) (v : Nat → Int) (a k : Int) (R : AV → List (Nat × AObj) → Prop) : wpFn te [] [] 0 Tryd.f15 [.ptr 0 0, .int .i64 k] [.cells [.view 1 n (intRow v), .int .i64 a] 31] R = (condP (decide (a < (↑n : Int))) (((0 : Int) ≤ a ∧ a < (↑n : Int) ∧ 1 = 1) ∧ inR .i64 (a + (1 : Int)) ∧ True ∧ True ∧ IntKind.wrap IntKind.u64 (max k (1 : Int)) ≠ (0 : Int) ∧ inR .i64 (Int.tmod (IntKind.wrap IntKind.u64 (v (Int.toNat a))) (IntKind.wrap IntKind.u64 (max k (1 : Int)))) ∧ R (.int .i64 (Int.tmod (IntKind.wrap IntKind.u64 (v (Int.toNat a))) (IntKind.wrap IntKind.u64 (max k (1 : Int))))) [(0, .cells [.view 1 n (intRow v), .int .i64 (a + (1 : Int))] 31)]) (inR .i64 (a + (1 : Int)) ∧ True ∧ True ∧ IntKind.wrap IntKind.u64 (max k (1 : Int)) ≠ (0 : Int) ∧ inR .i64 (Int.tmod (IntKind.wrap IntKind.u64 0) (IntKind.wrap IntKind.u64 (max k (1 : Int)))) ∧ R (.int .i64 (Int.tmod (IntKind.wrap IntKind.u64 0) (IntKind.wrap IntKind.u64 (max k (1 : Int))))) [(0, .cells [.view 1 n (intRow v), .int .i64 (a + (1 : Int))] 31)])) := by kernel_rfl

theorem wrap_u64 (n : Int) : IntKind.wrap .u64 n = n % 18446744073709551616 := by
  show n % (2 : Int) ^ 64 = _
  rfl
theorem next_val {k : Int} (h : 1 ≤ k ∧ k ≤ 1000000) (x : Int) : IntKind.wrap .u64 (max k 1) ≠ 0 ∧ Int.tmod (IntKind.wrap .u64 x) (IntKind.wrap .u64 (max k 1)) = foldV x k := by
  have e : IntKind.wrap .u64 (max k 1) = k := by
    rw [wrap_u64, Int.max_eq_left h.1]
    omega
  rw [e, wrap_u64]
  have hx : 0 ≤ x % 18446744073709551616 := by omega
  rw [Int.tmod_eq_emod_of_nonneg hx]
  exact ⟨by omega, rfl⟩

theorem fold_ok (hP : C.P = Tryd.prog) : SpecOK C 11 S_fold := by
  rintro args objs U Os vc h hvc
  unfold S_fold at h
  split at h <;> simp only [Option.some.injEq, Prod.mk.injEq, reduceCtorEq] at h
  rename_i n k
  obtain ⟨rfl, rfl, rfl⟩ := h
  refine SpecOK.wp0 (prg hP) [] 0 .nil (hP ▸ Tryd.func11) rfl rfl rfl ?_
  rw [nf_fold]
  obtain ⟨h1, h2⟩ := next_val hvc n
  have h3 := foldV_range hvc.1 n
  rw [h2]
  exact ⟨trivial, trivial, h1, by simp only [inR]; omega, rfl, rfl⟩

theorem next_ok (hP : C.P = Tryd.prog) : SpecOK C 15 S_next := by
  rintro args objs U Os vc h hvc
  unfold S_next at h
  split at h <;> simp only [Option.some.injEq, Prod.mk.injEq, reduceCtorEq] at h
  rename_i k sz n f a t
  obtain ⟨rfl, rfl, rfl⟩ := h
  obtain ⟨rfl, rfl, hf, hk, ha⟩ := hvc
  rw [hf]
  have hv : vInt (intRow (vInt f)) = vInt f := rfl
  rw [hv]
  generalize vInt f = v at *
  refine SpecOK.wp0 (prg hP) [] 0 .nil (hP ▸ Tryd.func15) rfl rfl rfl ?_
  rw [nf_next]
  unfold nextV
  refine condP_dec (fun h => ?_) (fun h => ?_)
  · obtain ⟨h1, h2⟩ := next_val hk (v a.toNat)
    have h3 := foldV_range hk.1 (v a.toNat)
    rw [h2, decide_eq_true h]
    exact ⟨⟨by omega, by omega, rfl⟩, by simp only [inR]; omega, trivial, trivial, h1, by simp only [inR]; omega, rfl, rfl⟩
  · obtain ⟨h1, h2⟩ := next_val hk 0
    have h3 := foldV_range hk.1 0
    rw [h2, decide_eq_false h]
    exact ⟨by simp only [inR]; omega, trivial, trivial, h1, by simp only [inR]; omega, rfl, rfl⟩

theorem nf_id_round (V j : Nat) (P : Nat → Prop) (R : Exit → St → Prop) : roundP ⟨te, [], [], 0, 39, 0⟩ (loopB Tryd.f16 4) [3, 4, 5] [4] [] (S_idl V) P R (S_idl V j) = (condP (decide ((0 : Int) ≤ (6 : Int) - (↑j : Int))) ((10 : Int) ≠ (0 : Int) ∧ inR .i64 ((48 : Int) + Int.tmod (↑(pw V j) : Int) (10 : Int)) ∧ inR .u8 ((48 : Int) + Int.tmod (↑(pw V j) : Int) (10 : Int)) ∧ ((0 : Int) ≤ (6 : Int) - (↑j : Int) ∧ (6 : Int) - (↑j : Int) < (↑7 : Int)) ∧ (List.length [AV.int .u8 ((48 : Int) + Int.tmod (↑(pw V j) : Int) (10 : Int))] = 1 ∧ Int.toNat ((6 : Int) - (↑j : Int)) < 7 ∧ 1 = 1) ∧ ((10 : Int) ≠ (0 : Int) ∧ inR .i64 (Int.tdiv (↑(pw V j) : Int) (10 : Int))) ∧ inR .i64 ((6 : Int) - (↑j : Int) - (1 : Int)) ∧ ∃ (i' : Nat), (TEq [(3, .int .i64 (Int.tdiv (↑(pw V j) : Int) (10 : Int))), (4, .own 0 7), (5, .int .i64 ((6 : Int) - (↑j : Int) - (1 : Int)))] [(3, .int .i64 (↑(pw V i') : Int)), (4, .own 0 7), (5, .int .i64 ((6 : Int) - (↑i' : Int)))] ∧ RowsEq [(0, .row 5 1 7 (fun (k : Nat) => if k = Int.toNat ((6 : Int) - (↑j : Int)) then [.int .u8 ((48 : Int) + Int.tmod (↑(pw V j) : Int) (10 : Int))] else [.int .u8 (bif decide (7 ≤ k + j) then dgI V k else (0 : Int))]) false)] [(0, .row 5 1 7 (fun (k : Nat) => [.int .u8 (bif decide (7 ≤ k + i') then dgI V k else (0 : Int))]) false)]) ∧ P i') ((∀ (i : Nat), i < 7 → true = true) ∧ ∃ (O' : List (Nat × AObj)), RowsEq [(0, .row 5 1 7 (fun (k : Nat) => [.int .u8 (bif decide (7 ≤ k + j) then dgI V k else (0 : Int))]) false)] O' ∧ R (.exit 0) (St.mk [(4, .own 0 7)] O' 1 []))) := by kernel_rfl
theorem nf_id (n : Int) (V : Nat) (R : AV → List (Nat × AObj) → Prop) : wpFn te [(11, .det S_fold), (30, .det S_checkDigit)] [(4, L_id V)] 2 Tryd.f16 [.int .i64 n] [] R = (((1 : Int) ≤ (1000000 : Int) ∧ (1000000 : Int) ≤ (1000000 : Int)) ∧ inR .i64 ((1000000 : Int) + foldV n (1000000 : Int)) ∧ ((0 : Int) ≤ (7 : Int) ∧ (7 : Int) ≤ (7 : Int) ∧ (↑(TI.bytes (TI.mk (TypeDesc.int IntKind.u8) 1 1 (Value.int IntKind.u8 0) false)) : Int) * (7 : Int) ≤ (281474976710656 : Int) ∧ (7 : Int) ≤ (9223372036854775807 : Int)) ∧ (TEq [(3, .int .i64 ((1000000 : Int) + foldV n (1000000 : Int))), (4, .own 0 7), (5, .int .i64 6)] [(3, .int .i64 (↑(pw V 0) : Int)), (4, .own 0 7), (5, .int .i64 ((6 : Int) - (↑0 : Int)))] ∧ RowsEq [(0, .row 5 1 7 (fun (x : Nat) => [.int .u8 0]) false)] [(0, .row 5 1 7 (fun (k : Nat) => [.int .u8 (bif decide (7 ≤ k + 0) then dgI V k else (0 : Int))]) false)]) ∧ V < 2000000 ∧ ((7 ≤ 7 ∧ 1 = 1) ∧ ∀ (i : Nat), i < 7 → isU8 (idRow V i) = true) ∧ True ∧ ((7 ≤ 7 ∧ 1 = 1) ∧ ∀ (i : Nat), i < 7 → isU8 (idRow V i) = true) ∧ inR .i64 ((48 : Int) + Prod.fst (cdF (bytesA 7 (idRow V)))) ∧ inR .u8 ((48 : Int) + Prod.fst (cdF (bytesA 7 (idRow V)))) ∧ (1 ≤ 16777216 ∧ 1 = 1 ∧ 1 ≤ 9223372036854775807) ∧ ((1 ≤ 1 ∧ 1 = 1) ∧ ∀ (i : Nat), i < 1 → isU8 (chunkA (TI.sz (TI.mk (TypeDesc.int IntKind.u8) 1 1 (Value.int IntKind.u8 0) false)) (.int .u8 ((48 : Int) + Prod.fst (cdF (bytesA 7 (idRow V)))) :: List.append [] (List.flatten (List.replicate (nat_lit 0) [.int .u8 0]))) i) = true) ∧ List.length (bytesA 7 (idRow V)) + List.length (bytesA 1 (chunkA (TI.sz (TI.mk (TypeDesc.int IntKind.u8) 1 1 (Value.int IntKind.u8 0) false)) (.int .u8 ((48 : Int) + Prod.fst (cdF (bytesA 7 (idRow V)))) :: List.append [] (List.flatten (List.replicate (nat_lit 0) [.int .u8 0]))))) ≤ 9223372036854775807 ∧ R (.str (bytesA 7 (idRow V) ++ bytesA 1 (chunkA (TI.sz (TI.mk (TypeDesc.int IntKind.u8) 1 1 (Value.int IntKind.u8 0) false)) (.int .u8 ((48 : Int) + Prod.fst (cdF (bytesA 7 (idRow V)))) :: List.append [] (List.flatten (List.replicate (nat_lit 0) [.int .u8 0])))))) []) := by kernel_rfl

theorem pw_step (V j : Nat) : Int.tdiv (pw V j : Nat) 10 = (pw V (j + 1) : Nat) := by
  rw [Int.tdiv_eq_ediv_of_nonneg (Int.natCast_nonneg _)]
  unfold pw
  rw [Nat.pow_succ, ← Nat.div_div_eq_div_mul]
  rfl
theorem pw_le (V j : Nat) : pw V j ≤ V := Nat.div_le_self _ _
theorem id_loop (hP : C.P = Tryd.prog) (V : Nat) : LoopOK C 0 39 (loopC Tryd.f16 4) (L_id V) := by
  rintro st Q ⟨h0, hv, hQ⟩
  refine LoopOK.mk (prg hP) [] 0 .nil [3, 4, 5] [4] [] (S_idl V) (fun j => j ≤ 7) (fun j => 7 - j) 0 (by omega) h0 (fun j hj => ?_) (fun i => ⟨fun _ _ => rfl, trivial⟩)
  rw [nf_id_round]
  have hle := pw_le V j
  have ht : Int.tmod (pw V j : Nat) 10 = ((pw V j % 10 : Nat) : Int) := by
    rw [Int.tmod_eq_emod_of_nonneg (Int.natCast_nonneg _)]; rfl
  rw [ht, pw_step]
  have hle' := pw_le V (j + 1)
  have hm := Nat.mod_lt (pw V j) (show 0 < 10 by omega)
  refine condP_dec (fun h => ?_) (fun h => ⟨fun _ _ => rfl, _, ?_, hQ⟩)
  · refine ⟨by omega, by simp only [inR]; omega, by simp only [inR]; omega, ⟨h, by omega⟩, ⟨rfl, by omega, rfl⟩, ⟨by omega, by simp only [inR]; omega⟩, by simp only [inR]; omega, j + 1, ⟨?_, ⟨rfl, rfl, rfl, rfl, rfl, fun k hk => ?_⟩, trivial⟩, by omega, by omega⟩
    · rw [show (6 : Int) - (j : Int) - 1 = 6 - ((j + 1 : Nat) : Int) by omega]
      rfl
    · dsimp only
      split
      · rename_i e
        have e' : 6 - k = j := by omega
        rw [decide_eq_true (show 7 ≤ k + (j + 1) by omega)]
        unfold dgI
        rw [e']; rfl
      · rename_i e
        by_cases h7 : 7 ≤ k + j
        · rw [decide_eq_true h7, decide_eq_true (show 7 ≤ k + (j + 1) by omega)]
        · rw [decide_eq_false h7, decide_eq_false (show ¬ 7 ≤ k + (j + 1) by omega)]
  · have : j = 7 := by omega
    subst this
    refine ⟨⟨rfl, rfl, rfl, rfl, rfl, fun k hk => ?_⟩, trivial⟩
    dsimp only
    rw [decide_eq_true (show 7 ≤ k + 7 by omega)]
    rfl

theorem id_ok (hP : C.P = Tryd.prog) : SpecOK C 16 S_id := by
  rintro args objs U Os vc h hvc
  unfold S_id at h
  split at h <;> simp only [Option.some.injEq, Prod.mk.injEq, reduceCtorEq] at h
  rename_i n
  obtain ⟨rfl, rfl, rfl⟩ := h
  refine SpecOK.wpL (prg hP) [(11, .det S_fold), (30, .det S_checkDigit)] [(4, L_id (idV n))] 2 (.cons (fold_ok hP) (.cons (cdR_ok hP) .nil)) (hP ▸ Tryd.func16) rfl rfl rfl [(loopC Tryd.f16 4, L_id (idV n))] (by kernel_rfl) ⟨id_loop hP _, trivial⟩ ?_
  rw [nf_id]
  have hf := foldV_range (show (1 : Int) ≤ 1000000 by omega) n
  have hV : ((idV n : Nat) : Int) = 1000000 + foldV n 1000000 := by unfold idV; omega
  have hl := id7_len n
  have hc := cdF_range (id7 n)
  refine ⟨⟨by omega, by omega⟩, by simp only [inR]; omega, ⟨by omega, by omega, by decide, by omega⟩, ⟨?_, ⟨rfl, rfl, rfl, rfl, rfl, fun k hk => ?_⟩, trivial⟩, by omega, ⟨⟨by omega, rfl⟩, fun _ _ => rfl⟩, trivial, ⟨⟨by omega, rfl⟩, fun _ _ => rfl⟩, ?_, ?_, ⟨by omega, rfl, by omega⟩, ⟨⟨by omega, rfl⟩, fun i hi => ?_⟩, ?_, rfl, rfl⟩
  · rw [← hV]
    show TEq [(3, .int .i64 ((idV n : Nat) : Int)), (4, .own 0 7), (5, .int .i64 6)] [(3, .int .i64 ((idV n / 1 : Nat) : Int)), (4, .own 0 7), (5, .int .i64 6)]
    rw [Nat.div_one]; rfl
  · dsimp only
    rw [decide_eq_false (show ¬ 7 ≤ k + 0 by omega)]; rfl
  · show inR .i64 (48 + (cdF (id7 n)).1)
    simp only [inR]; omega
  · show inR .u8 (48 + (cdF (id7 n)).1)
    simp only [inR]; omega
  · obtain rfl : i = 0 := by omega
    rfl
  · show (id7 n).length + _ ≤ _
    rw [hl]; simp [bytesA]

end Go.Eng

