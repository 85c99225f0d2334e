/- Lemmas that the tied card of ProductValid is proved by. -/
import Derived.Test.YtnjaabibmgdeoaaDoorKt
import Derived.Test.YtnjaabibmgdeoaaDoorKr
import Derived.Test.YtnjaabibmgdeoaaDoorKs
/- The law ProductValid: what its parts answer. -/
namespace Go.Eng

def S_awake : Spec
  | [], [] => some (.bool true, [], True)
  | _, _ => none
def S_val : Spec
  | [.agg [.str id, .str code, .str brand, .int .i64 d, .int .i64 c, .int .i64 a, .own 0 n]], [.row t 2 m f fr] => some (.int .i64 (valF id code brand d c a n (nmOf f) (vlOf f)), [(0, .row 52 2 n f false)],
      t = 52 ∧ fr = false ∧ n = m ∧ n ≤ 4294967281 ∧ code.length < 4294967281 ∧ brand.length < 4294967281 ∧ (∀ i, i < n → (nmOf f i).length < 4294967281 ∧ (vlOf f i).length < 4294967281) ∧ f = atRow (nmOf f) (vlOf f))
  | _, _ => none
theorem cd_awake : cdF [52, 48, 48, 54, 51, 56, 49, 51, 51, 51, 57, 51] = (1, true) := by decide +kernel
theorem id_awake : validIDF [57, 54, 51, 56, 53, 48, 55, 52] = true := by decide +kernel
end Go.Eng

/- The law ProductValid. -/
namespace Go.Eng
open Go.Proofs Go.RowKit
variable {C : Ctx}
set_option maxRecDepth 20000
theorem nf_awake (R : AV → List (Nat × AObj) → Prop) : wpFn te [(29, .det S_checkDigit), (21, .det S_validID)] [] 0 Tryd.f10 [] [] R = (True ∧ True ∧ R (.bool true) []) := by kernel_rfl
theorem nf_pv (id code brand : List UInt8) (d c q : Int) (n : Nat) (nm vl : Nat → List UInt8) (m : Nat) (v : Nat → Int) (R : AV → List (Nat × AObj) → Prop) : wpFn te [(6, .rel R_spoiled), (7, .rel R_raw), (8, .det S_val), (9, .det S_val), (10, .det S_awake)] [] 0 Tryd.f3 [.agg [.str id, .str code, .str brand, .int .i64 d, .int .i64 c, .int .i64 q, .view 2 n (atRow nm vl)], .view 1 m (intRow v)] [] R = (31 = 31 ∧ 1 = 1 ∧ intRow v = intRow (vInt (intRow v)) ∧ ((0 : Int) ≤ (0 : Int) ∧ (0 : Int) ≤ (4611686018427380000 : Int)) ∧ ∀ (id_1 code_1 brand_1 : List UInt8) (d_1 c_1 q_1 : Int) (k : Nat) (nm_1 vl_1 : Nat → List UInt8) (a' : Int), List.length id_1 ≤ 30 → List.length code_1 ≤ 30 → List.length brand_1 ≤ 30 → k ≤ 14 → (∀ (i : Nat), i < k → List.length (nm_1 i) ≤ 30 ∧ List.length (vl_1 i) ≤ 30) → (∀ (i : Nat), i < k → true = true) ∧ 2 = 2 ∧ atRow nm vl = atRow (nmOf (atRow nm vl)) (vlOf (atRow nm vl)) ∧ (∀ (i : Nat), i < min n 14 → true = true) ∧ (∀ (i : Nat), i < min n 14 → true = true) ∧ (52 = 52 ∧ false = false ∧ min n 14 = min n 14 ∧ min n 14 ≤ 4294967281 ∧ List.length (List.take 20 code) < 4294967281 ∧ List.length (List.take 30 brand) < 4294967281 ∧ (∀ (i : Nat), i < min n 14 → List.length (nmOf (atRow (t30 (nmOf (atRow nm vl))) (t30 (vlOf (atRow nm vl)))) i) < 4294967281 ∧ List.length (vlOf (atRow (t30 (nmOf (atRow nm vl))) (t30 (vlOf (atRow nm vl)))) i) < 4294967281) ∧ atRow (t30 (nmOf (atRow nm vl))) (t30 (vlOf (atRow nm vl))) = atRow (nmOf (atRow (t30 (nmOf (atRow nm vl))) (t30 (vlOf (atRow nm vl))))) (vlOf (atRow (t30 (nmOf (atRow nm vl))) (t30 (vlOf (atRow nm vl)))))) ∧ (∀ (i : Nat), i < min n 14 → true = true) ∧ (∀ (i : Nat), i < min n 14 → true = true) ∧ (52 = 52 ∧ false = false ∧ min n 14 = min n 14 ∧ min n 14 ≤ 4294967281 ∧ List.length (List.take 20 code) < 4294967281 ∧ List.length (List.take 30 brand) < 4294967281 ∧ (∀ (i : Nat), i < min n 14 → List.length (nmOf (atRow (t30 (nmOf (atRow nm vl))) (t30 (vlOf (atRow nm vl)))) i) < 4294967281 ∧ List.length (vlOf (atRow (t30 (nmOf (atRow nm vl))) (t30 (vlOf (atRow nm vl)))) i) < 4294967281) ∧ atRow (t30 (nmOf (atRow nm vl))) (t30 (vlOf (atRow nm vl))) = atRow (nmOf (atRow (t30 (nmOf (atRow nm vl))) (t30 (vlOf (atRow nm vl))))) (vlOf (atRow (t30 (nmOf (atRow nm vl))) (t30 (vlOf (atRow nm vl)))))) ∧ (∀ (i : Nat), i < min n 14 → true = true) ∧ condP (decide (valF (List.take 20 id) (List.take 20 code) (List.take 30 brand) d c q (min n 14) (nmOf (atRow (t30 (nmOf (atRow nm vl))) (t30 (vlOf (atRow nm vl))))) (vlOf (atRow (t30 (nmOf (atRow nm vl))) (t30 (vlOf (atRow nm vl))))) = valF (List.take 20 id) (List.take 20 code) (List.take 30 brand) d c q (min n 14) (nmOf (atRow (t30 (nmOf (atRow nm vl))) (t30 (vlOf (atRow nm vl))))) (vlOf (atRow (t30 (nmOf (atRow nm vl))) (t30 (vlOf (atRow nm vl))))))) ((∀ (i : Nat), i < k → true = true) ∧ (52 = 52 ∧ false = false ∧ k = k ∧ k ≤ 4294967281 ∧ List.length code_1 < 4294967281 ∧ List.length brand_1 < 4294967281 ∧ (∀ (i : Nat), i < k → List.length (nmOf (atRow nm_1 vl_1) i) < 4294967281 ∧ List.length (vlOf (atRow nm_1 vl_1) i) < 4294967281) ∧ atRow nm_1 vl_1 = atRow (nmOf (atRow nm_1 vl_1)) (vlOf (atRow nm_1 vl_1))) ∧ (∀ (i : Nat), i < k → true = true) ∧ (∀ (i : Nat), i < k → true = true) ∧ (52 = 52 ∧ false = false ∧ k = k ∧ k ≤ 4294967281 ∧ List.length code_1 < 4294967281 ∧ List.length brand_1 < 4294967281 ∧ (∀ (i : Nat), i < k → List.length (nmOf (atRow nm_1 vl_1) i) < 4294967281 ∧ List.length (vlOf (atRow nm_1 vl_1) i) < 4294967281) ∧ atRow nm_1 vl_1 = atRow (nmOf (atRow nm_1 vl_1)) (vlOf (atRow nm_1 vl_1))) ∧ (∀ (i : Nat), i < k → true = true) ∧ condP (decide (valF id_1 code_1 brand_1 d_1 c_1 q_1 k (nmOf (atRow nm_1 vl_1)) (vlOf (atRow nm_1 vl_1)) = valF id_1 code_1 brand_1 d_1 c_1 q_1 k (nmOf (atRow nm_1 vl_1)) (vlOf (atRow nm_1 vl_1)))) (True ∧ R (.bool true) []) (R (.bool false) [])) (R (.bool false) [])) := by kernel_rfl

theorem awake_ok (hP : C.P = Tryd.prog) : SpecOK C 10 S_awake := by
  rintro args objs U Os vc h hvc
  unfold S_awake at h
  split at h <;> simp only [Option.some.injEq, Prod.mk.injEq, reduceCtorEq] at h
  obtain ⟨rfl, rfl, rfl⟩ := h
  refine SpecOK.wp0 (prg hP) [(29, .det S_checkDigit), (21, .det S_validID)] 0 (.cons (checkDigit_ok hP (trim_ok hP)) (.cons (validID_ok hP (trim_ok hP)) .nil)) (hP ▸ Tryd.func10) rfl rfl rfl ?_
  rw [nf_awake]
  exact ⟨trivial, trivial, rfl, rfl⟩

theorem val_det {f : FuncId} (h : RSpecOK C f R_val) : SpecOK C f S_val := by
  rintro args objs U Os vc hs hvc
  unfold S_val at hs
  split at hs <;> simp only [Option.some.injEq, Prod.mk.injEq, reduceCtorEq] at hs
  obtain ⟨rfl, rfl, rfl⟩ := hs
  obtain ⟨h1, h2, h3, h4, h5, h6, h7, h8⟩ := hvc
  exact h _ _ _ ⟨h1, h2, h3, h4, h5, h6, h7, h8, rfl, rfl⟩

/-- The law's answer is 'true' at every product and every tape. -/
theorem pv_ok (hP : C.P = Tryd.prog) (hL : ∀ w, C.laid w → LaidW w) (id code brand : List UInt8) (d c q : Int) (n : Nat) (nm vl : Nat → List UInt8) (m : Nat) (v : Nat → Int) :
    ADet C 3 [.agg [.str id, .str code, .str brand, .int .i64 d, .int .i64 c, .int .i64 q, .view 2 n (atRow nm vl)], .view 1 m (intRow v)] [] (.bool true) [] := by
  refine SpecOK.wpL (prg hP) [(6, .rel R_spoiled), (7, .rel R_raw), (8, .det S_val), (9, .det S_val), (10, .det S_awake)] [] 0
    (.cons (spoiled_ok hP) (.cons (raw_ok hP) (.cons (val_det (val_ok hP hL)) (.cons (val_det (valR_ok hP)) (.cons (awake_ok hP) .nil))))) (hP ▸ Tryd.func3) rfl rfl rfl [] (by kernel_rfl) trivial ?_
  rw [nf_pv]
  have ht : ∀ (k : Nat) (s : List UInt8), (s.take k).length ≤ k := fun k s => by rw [List.length_take]; omega
  refine ⟨rfl, rfl, rfl, ⟨by omega, by omega⟩, fun id' code' brand' d' c' q' k nm' vl' a' l1 l2 l3 l4 l5 => ⟨fun _ _ => rfl, rfl, rfl, fun _ _ => rfl, fun _ _ => rfl, ⟨rfl, rfl, rfl, by omega, ?_, ?_, fun i hi => ⟨?_, ?_⟩, rfl⟩, fun _ _ => rfl, fun _ _ => rfl, ⟨rfl, rfl, rfl, by omega, ?_, ?_, fun i hi => ⟨?_, ?_⟩, rfl⟩, fun _ _ => rfl, condP_dec (fun _ => ⟨fun _ _ => rfl, ⟨rfl, rfl, rfl, by omega, by omega, by omega, fun i hi => ?_, rfl⟩, fun _ _ => rfl, fun _ _ => rfl, ⟨rfl, rfl, rfl, by omega, by omega, by omega, fun i hi => ?_, rfl⟩, fun _ _ => rfl, condP_dec (fun _ => ⟨trivial, rfl, rfl⟩) (fun hne => absurd rfl hne)⟩) (fun hne => absurd rfl hne)⟩⟩
  · have := ht 20 code; omega
  · have := ht 30 brand; omega
  · exact Nat.lt_of_le_of_lt (ht 30 (nm i)) (by omega)
  · exact Nat.lt_of_le_of_lt (ht 30 (vl i)) (by omega)
  · have := ht 20 code; omega
  · have := ht 30 brand; omega
  · exact Nat.lt_of_le_of_lt (ht 30 (nm i)) (by omega)
  · exact Nat.lt_of_le_of_lt (ht 30 (vl i)) (by omega)
  · obtain ⟨h1, h2⟩ := l5 i hi
    exact ⟨Nat.lt_of_le_of_lt h1 (by omega), Nat.lt_of_le_of_lt h2 (by omega)⟩
  · obtain ⟨h1, h2⟩ := l5 i hi
    exact ⟨Nat.lt_of_le_of_lt h1 (by omega), Nat.lt_of_le_of_lt h2 (by omega)⟩

end Go.Eng

