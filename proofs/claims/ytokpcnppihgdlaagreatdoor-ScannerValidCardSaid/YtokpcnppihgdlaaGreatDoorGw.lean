/- The tied card of ScannerValid: its statement is 'ScannerValidCardSaid' of the given cards. -/
import Derived.Test.YtokpcnppihgdlaaGreatDoorGo
import Derived.Test.YtokpcnppihgdlaaGreatDoorGv
import Derived.Test.YtokpcnppihgdlaaGreatDoorGn
import Derived.Test.YtokpcnppihgdlaaGreatDoorCards
import Derived.Test.YtokpcnppihgdlaaGreatDoorTie
import Derived.SevenTiedAt
/- The laws of scanner rows: they answer 'true'. -/
namespace Go.Eng
open Go.Proofs Go.RowKit
variable {C : Ctx} [C.Loose]
set_option maxRecDepth 20000
theorem nf_lsv (g : Nat → RW) (n m : Nat) (v : Nat → Int) (R : AV → List (Nat × AObj) → Prop) : wpFn te [(15, .det S_raw13), (16, .rel R_sp13), (17, .det S_comb), (18, .det S_comb), (19, .det S_sval), (20, .det S_sval), (21, .det S_same13), (22, .det S_awake13)] [] 3 Tryz.f3 [.view 5 n (rwRow g), .view 1 m (intRow v)] [] R = (rwRow g = rwRow (rwOf (rwRow g)) ∧ 28 = 28 ∧ 1 = 1 ∧ intRow v = intRow (vInt (intRow v)) ∧ ((0 : Int) ≤ (0 : Int) ∧ (0 : Int) ≤ (4611686018427360000 : Int)) ∧ ∀ (c : Nat) (g_1 : Nat → RW) (a' : Int), c ≤ 12 → (0 : Int) ≤ a' ∧ a' ≤ (0 : Int) + (700 : Int) → (∀ (j : Nat), j < c → List.length (RW.o (g_1 j)) ≤ 30) → (2 ≤ 16777216 ∧ 1 = 1 ∧ 2 ≤ 9223372036854775807) ∧ ((0 : Int) ≤ (0 : Int) ∧ (0 : Int) < (↑2 : Int)) ∧ (0 < 2 ∧ 1 = 1) ∧ (min n 15 ≤ 1000000 ∧ rwRow (cutR (rwOf (rwRow g))) = rwRow (rwOf (rwRow (cutR (rwOf (rwRow g))))) ∧ ∀ (i : Nat), i < min n 15 → List.length (RW.o (rwOf (rwRow (cutR (rwOf (rwRow g)))) i)) < 4294967281) ∧ (min n 15 ≤ 1000000 ∧ rwRow (cutR (rwOf (rwRow g))) = rwRow (rwOf (rwRow (cutR (rwOf (rwRow g))))) ∧ ∀ (i : Nat), i < min n 15 → List.length (RW.o (rwOf (rwRow (cutR (rwOf (rwRow g)))) i)) < 4294967281) ∧ (min n 15 ≤ 1000000 ∧ rwRow (cutR (rwOf (rwRow g))) = rwRow (rwOf (rwRow (cutR (rwOf (rwRow g))))) ∧ ∀ (i : Nat), i < min n 15 → List.length (RW.o (rwOf (rwRow (cutR (rwOf (rwRow g)))) i)) < 4294967281) ∧ (min n 15 ≤ 1000000 ∧ rwRow (cutR (rwOf (rwRow g))) = rwRow (rwOf (rwRow (cutR (rwOf (rwRow g))))) ∧ ∀ (i : Nat), i < min n 15 → List.length (RW.o (rwOf (rwRow (cutR (rwOf (rwRow g)))) i)) < 4294967281) ∧ condP (!decide (svF (rwOf (rwRow (cutR (rwOf (rwRow g))))) (min n 15) = svF (rwOf (rwRow (cutR (rwOf (rwRow g))))) (min n 15))) (R (.bool false) []) (condP (!decide (svF (rwOf (rwRow (cutR (rwOf (rwRow g))))) (min n 15) = svF (rwOf (rwRow (cutR (rwOf (rwRow g))))) (min n 15))) (R (.bool false) []) ((List.length (combL (rwOf (rwRow (cutR (rwOf (rwRow g))))) (min n 15)) ≤ 1000000 ∧ rwRow (atR (combL (rwOf (rwRow (cutR (rwOf (rwRow g))))) (min n 15))) = rwRow (rwOf (rwRow (atR (combL (rwOf (rwRow (cutR (rwOf (rwRow g))))) (min n 15))))) ∧ rwRow (atR (combL (rwOf (rwRow (cutR (rwOf (rwRow g))))) (min n 15))) = rwRow (rwOf (rwRow (atR (combL (rwOf (rwRow (cutR (rwOf (rwRow g))))) (min n 15)))))) ∧ condP (!(decide (List.length (combL (rwOf (rwRow (cutR (rwOf (rwRow g))))) (min n 15)) = List.length (combL (rwOf (rwRow (cutR (rwOf (rwRow g))))) (min n 15))) && eqRows (rwOf (rwRow (atR (combL (rwOf (rwRow (cutR (rwOf (rwRow g))))) (min n 15))))) (rwOf (rwRow (atR (combL (rwOf (rwRow (cutR (rwOf (rwRow g))))) (min n 15))))) (List.length (combL (rwOf (rwRow (cutR (rwOf (rwRow g))))) (min n 15))))) (R (.bool false) []) (inR .i64 ((0 : Int) + (1 : Int)) ∧ ((0 : Int) ≤ (0 : Int) + (1 : Int) ∧ (0 : Int) + (1 : Int) < (↑2 : Int)) ∧ (1 < 2 ∧ 1 = 1) ∧ (c ≤ 1000000 ∧ rwRow g_1 = rwRow (rwOf (rwRow g_1)) ∧ ∀ (i : Nat), i < c → List.length (RW.o (rwOf (rwRow g_1) i)) < 4294967281) ∧ (c ≤ 1000000 ∧ rwRow g_1 = rwRow (rwOf (rwRow g_1)) ∧ ∀ (i : Nat), i < c → List.length (RW.o (rwOf (rwRow g_1) i)) < 4294967281) ∧ (c ≤ 1000000 ∧ rwRow g_1 = rwRow (rwOf (rwRow g_1)) ∧ ∀ (i : Nat), i < c → List.length (RW.o (rwOf (rwRow g_1) i)) < 4294967281) ∧ (c ≤ 1000000 ∧ rwRow g_1 = rwRow (rwOf (rwRow g_1)) ∧ ∀ (i : Nat), i < c → List.length (RW.o (rwOf (rwRow g_1) i)) < 4294967281) ∧ condP (!decide (svF (rwOf (rwRow g_1)) c = svF (rwOf (rwRow g_1)) c)) (R (.bool false) []) (condP (!decide (svF (rwOf (rwRow g_1)) c = svF (rwOf (rwRow g_1)) c)) (R (.bool false) []) ((List.length (combL (rwOf (rwRow g_1)) c) ≤ 1000000 ∧ rwRow (atR (combL (rwOf (rwRow g_1)) c)) = rwRow (rwOf (rwRow (atR (combL (rwOf (rwRow g_1)) c)))) ∧ rwRow (atR (combL (rwOf (rwRow g_1)) c)) = rwRow (rwOf (rwRow (atR (combL (rwOf (rwRow g_1)) c))))) ∧ condP (!(decide (List.length (combL (rwOf (rwRow g_1)) c) = List.length (combL (rwOf (rwRow g_1)) c)) && eqRows (rwOf (rwRow (atR (combL (rwOf (rwRow g_1)) c)))) (rwOf (rwRow (atR (combL (rwOf (rwRow g_1)) c)))) (List.length (combL (rwOf (rwRow g_1)) c)))) (R (.bool false) []) (inR .i64 ((0 : Int) + (1 : Int) + (1 : Int)) ∧ True ∧ R (.bool true) []))))))) := by kernel_rfl
theorem nf_lmn (x : Int) (R : AV → List (Nat × AObj) → Prop) : wpFn te [(23, .det S_fold), (24, .rel R_trow0), (17, .det S_comb), (19, .det S_sval), (22, .det S_awake13)] [(6, L_mn (23999 + foldV x 3).toNat)] 0 Tryz.f4 [.int .i64 x] [] R = (((1 : Int) ≤ (3 : Int) ∧ (3 : Int) ≤ (1000000 : Int)) ∧ inR .i64 ((23999 : Int) + foldV x (3 : Int)) ∧ 28 = 28 ∧ ((0 : Int) ≤ (0 : Int) ∧ (0 : Int) ≤ (4611686018427380000 : Int)) ∧ ∀ (r : RW), RW.Made r → ((0 : Int) ≤ (23999 : Int) + foldV x (3 : Int) ∧ (23999 : Int) + foldV x (3 : Int) ≤ (23999 : Int) + foldV x (3 : Int) ∧ (↑(TI.bytes (TI.mk (TypeDesc.struct #[Field.mk "Outlet" (9 : TypeId) 0 false "" "" 0, Field.mk "Product" (9 : TypeId) 1 false "" "" 16, Field.mk "Period" (3 : TypeId) 2 false "" "" 32, Field.mk "Units" (2 : TypeId) 3 false "" "" 40, Field.mk "Turnover" (2 : TypeId) 4 false "" "" 48]) 5 56 (Value.agg #[Value.string (ByteArray.mk #[]), Value.string (ByteArray.mk #[]), Value.int IntKind.i64 0, Value.int IntKind.i64 0, Value.int IntKind.i64 0]) true)) : Int) * ((23999 : Int) + foldV x (3 : Int)) ≤ (281474976710656 : Int) ∧ (23999 : Int) + foldV x (3 : Int) ≤ (9223372036854775807 : Int)) ∧ ∃ (r_1 : RW), (TEq [(4, .int .i64 ((23999 : Int) + foldV x (3 : Int))), (5, .ptr 0 0), (6, .own 1 (Int.toNat ((23999 : Int) + foldV x (3 : Int)))), (20, .own 1 (Int.toNat ((23999 : Int) + foldV x (3 : Int)))), (21, .int .i64 (↑(Int.toNat ((23999 : Int) + foldV x (3 : Int))) : Int)), (22, .int .i64 0)] [(4, .int .i64 (↑(Int.toNat ((23999 : Int) + foldV x (3 : Int))) : Int)), (5, .ptr 0 0), (6, .own 1 (Int.toNat ((23999 : Int) + foldV x (3 : Int)))), (20, .own 1 (Int.toNat ((23999 : Int) + foldV x (3 : Int)))), (21, .int .i64 (↑(Int.toNat ((23999 : Int) + foldV x (3 : Int))) : Int)), (22, .int .i64 (↑0 : Int))] ∧ RowsEq [(0, .cells [.str (RW.o r), .str (RW.p r), .int .i64 (RW.per r), .int .i64 (RW.u r), .int .i64 (RW.tv r)] 39), (1, .row 39 5 (Int.toNat ((23999 : Int) + foldV x (3 : Int))) (fun (x : Nat) => [.str [], .str [], .int .i64 0, .int .i64 0, .int .i64 0]) false)] [(0, .cells [.str (RW.o r_1), .str (RW.p r_1), .int .i64 (RW.per r_1), .int .i64 (RW.u r_1), .int .i64 (RW.tv r_1)] 39), (1, .row 39 5 (Int.toNat ((23999 : Int) + foldV x (3 : Int))) (rwRow (fillR r_1 0)) false)]) ∧ RW.Made r_1 ∧ Int.toNat ((23999 : Int) + foldV x (3 : Int)) ≤ 100000 ∧ (Int.toNat ((23999 : Int) + foldV x (3 : Int)) ≤ 1000000 ∧ rwRow (fillR r_1 (Int.toNat ((23999 : Int) + foldV x (3 : Int)))) = rwRow (rwOf (rwRow (fillR r_1 (Int.toNat ((23999 : Int) + foldV x (3 : Int)))))) ∧ ∀ (i : Nat), i < Int.toNat ((23999 : Int) + foldV x (3 : Int)) → List.length (RW.o (rwOf (rwRow (fillR r_1 (Int.toNat ((23999 : Int) + foldV x (3 : Int))))) i)) < 4294967281) ∧ (Int.toNat ((23999 : Int) + foldV x (3 : Int)) ≤ 1000000 ∧ rwRow (fillR r_1 (Int.toNat ((23999 : Int) + foldV x (3 : Int)))) = rwRow (rwOf (rwRow (fillR r_1 (Int.toNat ((23999 : Int) + foldV x (3 : Int)))))) ∧ ∀ (i : Nat), i < Int.toNat ((23999 : Int) + foldV x (3 : Int)) → List.length (RW.o (rwOf (rwRow (fillR r_1 (Int.toNat ((23999 : Int) + foldV x (3 : Int))))) i)) < 4294967281) ∧ condP (decide ((24000 : Int) < (↑(Int.toNat ((23999 : Int) + foldV x (3 : Int))) : Int))) (condP (decide (svF (rwOf (rwRow (fillR r_1 (Int.toNat ((23999 : Int) + foldV x (3 : Int)))))) (Int.toNat ((23999 : Int) + foldV x (3 : Int))) = (130 : Int))) (condP (decide (svF (rwOf (rwRow (fillR r_1 (Int.toNat ((23999 : Int) + foldV x (3 : Int)))))) (Int.toNat ((23999 : Int) + foldV x (3 : Int))) = svF (rwOf (rwRow (fillR r_1 (Int.toNat ((23999 : Int) + foldV x (3 : Int)))))) (Int.toNat ((23999 : Int) + foldV x (3 : Int))))) (condP (decide ((↑(List.length (combL (rwOf (rwRow (fillR r_1 (Int.toNat ((23999 : Int) + foldV x (3 : Int)))))) (Int.toNat ((23999 : Int) + foldV x (3 : Int))))) : Int) = (0 : Int))) (True ∧ R (.bool true) []) (R (.bool false) [])) (R (.bool false) [])) (R (.bool false) [])) (condP (decide (svF (rwOf (rwRow (fillR r_1 (Int.toNat ((23999 : Int) + foldV x (3 : Int)))))) (Int.toNat ((23999 : Int) + foldV x (3 : Int))) = (0 : Int))) (condP (decide (svF (rwOf (rwRow (fillR r_1 (Int.toNat ((23999 : Int) + foldV x (3 : Int)))))) (Int.toNat ((23999 : Int) + foldV x (3 : Int))) = (0 : Int))) (condP (decide ((↑(List.length (combL (rwOf (rwRow (fillR r_1 (Int.toNat ((23999 : Int) + foldV x (3 : Int)))))) (Int.toNat ((23999 : Int) + foldV x (3 : Int))))) : Int) = (1 : Int))) (((0 : Int) ≤ (0 : Int) ∧ (0 : Int) < (↑(List.length (combL (rwOf (rwRow (fillR r_1 (Int.toNat ((23999 : Int) + foldV x (3 : Int)))))) (Int.toNat ((23999 : Int) + foldV x (3 : Int))))) : Int) ∧ 5 = 5) ∧ inR .i64 (RW.u r_1 * (↑(Int.toNat ((23999 : Int) + foldV x (3 : Int))) : Int)) ∧ condP (decide (RW.u (atR (combL (rwOf (rwRow (fillR r_1 (Int.toNat ((23999 : Int) + foldV x (3 : Int)))))) (Int.toNat ((23999 : Int) + foldV x (3 : Int)))) (Int.toNat (0 : Int))) = RW.u r_1 * (↑(Int.toNat ((23999 : Int) + foldV x (3 : Int))) : Int))) (((0 : Int) ≤ (0 : Int) ∧ (0 : Int) < (↑(List.length (combL (rwOf (rwRow (fillR r_1 (Int.toNat ((23999 : Int) + foldV x (3 : Int)))))) (Int.toNat ((23999 : Int) + foldV x (3 : Int))))) : Int) ∧ 5 = 5) ∧ inR .i64 (RW.tv r_1 * (↑(Int.toNat ((23999 : Int) + foldV x (3 : Int))) : Int)) ∧ condP (decide (RW.tv (atR (combL (rwOf (rwRow (fillR r_1 (Int.toNat ((23999 : Int) + foldV x (3 : Int)))))) (Int.toNat ((23999 : Int) + foldV x (3 : Int)))) (Int.toNat (0 : Int))) = RW.tv r_1 * (↑(Int.toNat ((23999 : Int) + foldV x (3 : Int))) : Int))) (True ∧ R (.bool true) []) (R (.bool false) [])) (R (.bool false) [])) (R (.bool false) [])) (R (.bool false) [])) (R (.bool false) []))) := by kernel_rfl
theorem nf_mn_round (r : RW) (n k : Nat) (P : Nat → Prop) (R : Exit → St → Prop) : roundP ⟨te, [], [], 0, 90, 0⟩ (loopB Tryz.f4 6) [4, 5, 6, 20, 21, 22] [4, 5, 6] [] (S_mn r n) P R (S_mn r n k) = (condP (decide ((↑k : Int) < (↑n : Int))) (((0 : Int) ≤ (↑k : Int) ∧ (↑k : Int) < (↑n : Int)) ∧ (List.length [AV.str (RW.o r), .str (RW.p r), .int .i64 (RW.per r), .int .i64 (RW.u r), .int .i64 (RW.tv r)] = 5 ∧ Int.toNat (↑k : Int) < n ∧ 5 = 5) ∧ inR .i64 ((↑k : Int) + (1 : Int)) ∧ ∃ (i' : Nat), (TEq [(4, .int .i64 (↑n : Int)), (5, .ptr 0 0), (6, .own 1 n), (20, .own 1 n), (21, .int .i64 (↑n : Int)), (22, .int .i64 ((↑k : Int) + (1 : Int)))] [(4, .int .i64 (↑n : Int)), (5, .ptr 0 0), (6, .own 1 n), (20, .own 1 n), (21, .int .i64 (↑n : Int)), (22, .int .i64 (↑i' : Int))] ∧ RowsEq [(0, .cells [.str (RW.o r), .str (RW.p r), .int .i64 (RW.per r), .int .i64 (RW.u r), .int .i64 (RW.tv r)] 39), (1, .row 39 5 n (fun (k_1 : Nat) => if k_1 = Int.toNat (↑k : Int) then [.str (RW.o r), .str (RW.p r), .int .i64 (RW.per r), .int .i64 (RW.u r), .int .i64 (RW.tv r)] else rwRow (fillR r k) k_1) false)] [(0, .cells [.str (RW.o r), .str (RW.p r), .int .i64 (RW.per r), .int .i64 (RW.u r), .int .i64 (RW.tv r)] 39), (1, .row 39 5 n (rwRow (fillR r i')) false)]) ∧ P i') ((∀ (i : Nat), i < n → true = true) ∧ ∃ (O' : List (Nat × AObj)), RowsEq [(0, .cells [.str (RW.o r), .str (RW.p r), .int .i64 (RW.per r), .int .i64 (RW.u r), .int .i64 (RW.tv r)] 39), (1, .row 39 5 n (rwRow (fillR r k)) false)] O' ∧ R (.exit 0) (St.mk [(4, .int .i64 (↑n : Int)), (5, .ptr 0 0), (6, .own 1 n)] O' 2 []))) := by kernel_rfl
theorem nf_lad (m : Nat) (v : Nat → Int) (R : AV → List (Nat × AObj) → Prop) : wpFn te [(25, .rel R_rows), (17, .det S_combO), (21, .det S_same13), (22, .det S_awake13)] [(6, L_ad1), (16, L_ad2)] 0 Tryz.f5 [.view 1 m (intRow v)] [] R = (28 = 28 ∧ 1 = 1 ∧ intRow v = intRow (vInt (intRow v)) ∧ ((0 : Int) ≤ (0 : Int) ∧ (0 : Int) ≤ (4611686018427370000 : Int)) ∧ ((0 : Int) ≤ (14 : Int) ∧ (14 : Int) ≤ (90 : Int)) ∧ ∀ (c : Nat) (g : Nat → RW) (a' : Int), c ≤ Int.toNat (14 : Int) → (0 : Int) ≤ a' ∧ a' ≤ (0 : Int) + (600 : Int) → (∀ (j : Nat), j < c → RW.Made (g j)) → (∀ (i : Nat), i < c → true = true) ∧ ∃ (c_1 : Nat), ∃ (g_1 : Nat → RW), (TEq [(4, .own 0 c), (5, .own 1 0), (6, .int .i64 0), (7, .int .i64 0), (22, .own 0 c), (23, .int .i64 (↑c : Int)), (24, .int .i64 0)] [(4, .own 0 c_1), (5, .own 1 0), (6, .int .i64 (sU g_1 0)), (7, .int .i64 (sT g_1 0)), (22, .own 0 c_1), (23, .int .i64 (↑c_1 : Int)), (24, .int .i64 (↑0 : Int))] ∧ RowsEq [(0, .row 39 5 c (rwRow g) false), (1, .row 39 5 0 (fun (x : Nat) => []) false)] [(0, .row 39 5 c_1 (rwRow g_1) false), (1, .row 39 5 0 (rwRow (revR g_1 c_1)) false)]) ∧ c_1 ≤ 14 ∧ (∀ (i : Nat), i < c_1 → RW.Made (g_1 i)) ∧ (∀ (i : Nat), i < c_1 → true = true) ∧ (c_1 = c_1 ∧ c_1 ≤ 1000000 ∧ (∀ (i : Nat), i < c_1 → [AV.str (RW.o (g_1 i)), .str (RW.p (g_1 i)), .int .i64 (RW.per (g_1 i)), .int .i64 (RW.u (g_1 i)), .int .i64 (RW.tv (g_1 i))] = [.str (RW.o (rwOf (rwRow g_1) i)), .str (RW.p (rwOf (rwRow g_1) i)), .int .i64 (RW.per (rwOf (rwRow g_1) i)), .int .i64 (RW.u (rwOf (rwRow g_1) i)), .int .i64 (RW.tv (rwOf (rwRow g_1) i))]) ∧ ∀ (i : Nat), i < c_1 → List.length (RW.o (rwOf (rwRow g_1) i)) < 4294967281) ∧ (∀ (i : Nat), i < c_1 → true = true) ∧ (c_1 = c_1 ∧ c_1 ≤ 1000000 ∧ (∀ (i : Nat), i < c_1 → [AV.str (RW.o (revR g_1 c_1 i)), .str (RW.p (revR g_1 c_1 i)), .int .i64 (RW.per (revR g_1 c_1 i)), .int .i64 (RW.u (revR g_1 c_1 i)), .int .i64 (RW.tv (revR g_1 c_1 i))] = [.str (RW.o (rwOf (rwRow (revR g_1 c_1)) i)), .str (RW.p (rwOf (rwRow (revR g_1 c_1)) i)), .int .i64 (RW.per (rwOf (rwRow (revR g_1 c_1)) i)), .int .i64 (RW.u (rwOf (rwRow (revR g_1 c_1)) i)), .int .i64 (RW.tv (rwOf (rwRow (revR g_1 c_1)) i))]) ∧ ∀ (i : Nat), i < c_1 → List.length (RW.o (rwOf (rwRow (revR g_1 c_1)) i)) < 4294967281) ∧ condP (!decide (svF (rwOf (rwRow g_1)) c_1 = (0 : Int))) (R (.bool false) []) (condP (!decide (svF (rwOf (rwRow (revR g_1 c_1))) c_1 = (0 : Int))) (R (.bool false) []) ((List.length (combL (rwOf (rwRow g_1)) c_1) ≤ 1000000 ∧ rwRow (atR (combL (rwOf (rwRow g_1)) c_1)) = rwRow (rwOf (rwRow (atR (combL (rwOf (rwRow g_1)) c_1)))) ∧ rwRow (atR (combL (rwOf (rwRow (revR g_1 c_1))) c_1)) = rwRow (rwOf (rwRow (atR (combL (rwOf (rwRow (revR g_1 c_1))) c_1))))) ∧ condP (!(decide (List.length (combL (rwOf (rwRow g_1)) c_1) = List.length (combL (rwOf (rwRow (revR g_1 c_1))) c_1)) && eqRows (rwOf (rwRow (atR (combL (rwOf (rwRow g_1)) c_1)))) (rwOf (rwRow (atR (combL (rwOf (rwRow (revR g_1 c_1))) c_1)))) (List.length (combL (rwOf (rwRow g_1)) c_1)))) (R (.bool false) []) (∃ (U : Int), ∃ (T : Int), ∃ (L : List RW), some (St.mk [(6, .int .i64 (sU g_1 c_1)), (7, .int .i64 (sT g_1 c_1)), (10, .view 5 (List.length (combL (rwOf (rwRow g_1)) c_1)) (rwRow (atR (combL (rwOf (rwRow g_1)) c_1)))), (71, .view 5 (List.length (combL (rwOf (rwRow g_1)) c_1)) (rwRow (atR (combL (rwOf (rwRow g_1)) c_1)))), (72, .int .i64 (↑(List.length (combL (rwOf (rwRow g_1)) c_1)) : Int)), (73, .int .i64 0)] [] 0 []) = some (St.mk [(6, .int .i64 (U - sU (atR L) 0)), (7, .int .i64 (T - sT (atR L) 0)), (10, .view 5 (List.length L) (rwRow (atR L))), (71, .view 5 (List.length L) (rwRow (atR L))), (72, .int .i64 (↑(List.length L) : Int)), (73, .int .i64 (↑0 : Int))] [] 0 []) ∧ List.length L ≤ 14 ∧ ((0 : Int) ≤ U ∧ U ≤ (1000 : Int) ∧ (0 : Int) ≤ T ∧ T ≤ (100000 : Int)) ∧ Asc keyC L ∧ (∀ (r : RW), r ∈ L → (0 : Int) ≤ RW.u r ∧ RW.u r ≤ (1000 : Int) ∧ (0 : Int) ≤ RW.tv r ∧ RW.tv r ≤ (100000 : Int)) ∧ condP (decide (U - sU (atR L) (List.length L) = (0 : Int))) (condP (decide (T - sT (atR L) (List.length L) = (0 : Int))) (True ∧ R (.bool true) []) (R (.bool false) [])) (R (.bool false) []))))) := by kernel_rfl
theorem nf_ad1_round (g : Nat → RW) (c k : Nat) (P : Nat → Prop) (R : Exit → St → Prop) : roundP ⟨te, [], [], 0, 136, 0⟩ (loopB Tryz.f5 6) [4, 5, 6, 7, 22, 23, 24] [4, 5, 6, 7] [] (S_ad1 g c) P R (S_ad1 g c k) = (condP (decide ((↑k : Int) < (↑c : Int))) (((0 : Int) ≤ (↑k : Int) ∧ (↑k : Int) < (↑c : Int)) ∧ (Int.toNat (↑k : Int) < c ∧ 5 = 5) ∧ inR .i64 ((↑c : Int) - (1 : Int)) ∧ inR .i64 ((↑c : Int) - (1 : Int) - (↑k : Int)) ∧ ((0 : Int) ≤ (↑c : Int) - (1 : Int) - (↑k : Int) ∧ (↑c : Int) - (1 : Int) - (↑k : Int) < (↑c : Int)) ∧ (Int.toNat ((↑c : Int) - (1 : Int) - (↑k : Int)) < c ∧ 5 = 5) ∧ (5 ≤ 16777216 ∧ 5 = 5 ∧ 1 ≤ 9223372036854775807) ∧ ((1 ≤ 1 ∧ 5 = 5) ∧ k ≤ k ∧ 5 = 5 ∧ 39 = 39 ∧ 5 = 5 ∧ k + 1 ≤ 9223372036854775807 ∧ (k + 1) * TI.bytes (TI.mk (TypeDesc.struct #[Field.mk "Outlet" (9 : TypeId) 0 false "" "" 0, Field.mk "Product" (9 : TypeId) 1 false "" "" 16, Field.mk "Period" (3 : TypeId) 2 false "" "" 32, Field.mk "Units" (2 : TypeId) 3 false "" "" 40, Field.mk "Turnover" (2 : TypeId) 4 false "" "" 48]) 5 56 (Value.agg #[Value.string (ByteArray.mk #[]), Value.string (ByteArray.mk #[]), Value.int IntKind.i64 0, Value.int IntKind.i64 0, Value.int IntKind.i64 0]) true) ≤ 140737488355328) ∧ inR .i64 (sU g k + RW.u (g (Int.toNat (↑k : Int)))) ∧ inR .i64 (sT g k + RW.tv (g (Int.toNat (↑k : Int)))) ∧ inR .i64 ((↑k : Int) + (1 : Int)) ∧ ∃ (i' : Nat), (TEq [(4, .own 0 c), (5, .own 1 (k + 1)), (6, .int .i64 (sU g k + RW.u (g (Int.toNat (↑k : Int))))), (7, .int .i64 (sT g k + RW.tv (g (Int.toNat (↑k : Int))))), (22, .own 0 c), (23, .int .i64 (↑c : Int)), (24, .int .i64 ((↑k : Int) + (1 : Int)))] [(4, .own 0 c), (5, .own 1 i'), (6, .int .i64 (sU g i')), (7, .int .i64 (sT g i')), (22, .own 0 c), (23, .int .i64 (↑c : Int)), (24, .int .i64 (↑i' : Int))] ∧ RowsEq [(0, .row 39 5 c (rwRow g) false), (1, .row 39 5 (k + 1) (apF k (rwRow (revR g c)) (chunkA (TI.sz (TI.mk (TypeDesc.struct #[Field.mk "Outlet" (9 : TypeId) 0 false "" "" 0, Field.mk "Product" (9 : TypeId) 1 false "" "" 16, Field.mk "Period" (3 : TypeId) 2 false "" "" 32, Field.mk "Units" (2 : TypeId) 3 false "" "" 40, Field.mk "Turnover" (2 : TypeId) 4 false "" "" 48]) 5 56 (Value.agg #[Value.string (ByteArray.mk #[]), Value.string (ByteArray.mk #[]), Value.int IntKind.i64 0, Value.int IntKind.i64 0, Value.int IntKind.i64 0]) true)) (.str (RW.o (g (Int.toNat ((↑c : Int) - (1 : Int) - (↑k : Int))))) :: .str (RW.p (g (Int.toNat ((↑c : Int) - (1 : Int) - (↑k : Int))))) :: .int .i64 (RW.per (g (Int.toNat ((↑c : Int) - (1 : Int) - (↑k : Int))))) :: .int .i64 (RW.u (g (Int.toNat ((↑c : Int) - (1 : Int) - (↑k : Int))))) :: .int .i64 (RW.tv (g (Int.toNat ((↑c : Int) - (1 : Int) - (↑k : Int))))) :: List.append [] (List.flatten (List.replicate (nat_lit 0) [.str ([]), .str ([]), .int .i64 0, .int .i64 0, .int .i64 0]))))) false)] [(0, .row 39 5 c (rwRow g) false), (1, .row 39 5 i' (rwRow (revR g c)) false)]) ∧ P i') ((∀ (i : Nat), i < c → true = true) ∧ (∀ (i : Nat), i < k → true = true) ∧ ∃ (O' : List (Nat × AObj)), RowsEq [(0, .row 39 5 c (rwRow g) false), (1, .row 39 5 k (rwRow (revR g c)) false)] O' ∧ R (.exit 0) (St.mk [(4, .own 0 c), (5, .own 1 k), (6, .int .i64 (sU g k)), (7, .int .i64 (sT g k))] O' 2 []))) := by kernel_rfl
theorem nf_ad2_round (U T : Int) (L : List RW) (k : Nat) (P : Nat → Prop) (R : Exit → St → Prop) : roundP ⟨te, [], [], 0, 136, 0⟩ (loopB Tryz.f5 16) [6, 7, 10, 71, 72, 73] [6, 7] [2] (S_ad2 U T L) P R (S_ad2 U T L k) = (condP (decide ((↑k : Int) < (↑(List.length L) : Int))) (((0 : Int) ≤ (↑k : Int) ∧ (↑k : Int) < (↑(List.length L) : Int) ∧ 5 = 5) ∧ inR .i64 (U - sU (atR L) k - RW.u (atR L (Int.toNat (↑k : Int)))) ∧ inR .i64 (T - sT (atR L) k - RW.tv (atR L (Int.toNat (↑k : Int)))) ∧ condP (decide ((0 : Int) < (↑k : Int))) (inR .i64 ((↑k : Int) - (1 : Int)) ∧ ((0 : Int) ≤ (↑k : Int) - (1 : Int) ∧ (↑k : Int) - (1 : Int) < (↑(List.length L) : Int) ∧ 5 = 5) ∧ condP (!(Op.bytesLess (RW.o (atR L (Int.toNat ((↑k : Int) - (1 : Int))))) (RW.o (atR L (Int.toNat (↑k : Int)))) || decide (RW.o (atR L (Int.toNat ((↑k : Int) - (1 : Int)))) = RW.o (atR L (Int.toNat (↑k : Int)))))) (R .ret (St.mk [(2, .bool false)] [] 0 [])) (condP (decide (RW.o (atR L (Int.toNat ((↑k : Int) - (1 : Int)))) = RW.o (atR L (Int.toNat (↑k : Int))))) (condP (!(Op.bytesLess (RW.p (atR L (Int.toNat ((↑k : Int) - (1 : Int))))) (RW.p (atR L (Int.toNat (↑k : Int)))) || decide (RW.p (atR L (Int.toNat ((↑k : Int) - (1 : Int)))) = RW.p (atR L (Int.toNat (↑k : Int)))))) (R .ret (St.mk [(2, .bool false)] [] 0 [])) (condP (decide (RW.p (atR L (Int.toNat ((↑k : Int) - (1 : Int)))) = RW.p (atR L (Int.toNat (↑k : Int))))) (condP (decide (RW.per (atR L (Int.toNat (↑k : Int))) ≤ RW.per (atR L (Int.toNat ((↑k : Int) - (1 : Int)))))) (R .ret (St.mk [(2, .bool false)] [] 0 [])) (inR .i64 ((↑k : Int) + (1 : Int)) ∧ ∃ (i' : Nat), some (St.mk [(6, .int .i64 (U - sU (atR L) k - RW.u (atR L (Int.toNat (↑k : Int))))), (7, .int .i64 (T - sT (atR L) k - RW.tv (atR L (Int.toNat (↑k : Int))))), (10, .view 5 (List.length L) (rwRow (atR L))), (71, .view 5 (List.length L) (rwRow (atR L))), (72, .int .i64 (↑(List.length L) : Int)), (73, .int .i64 ((↑k : Int) + (1 : Int)))] [] 0 []) = some (St.mk [(6, .int .i64 (U - sU (atR L) i')), (7, .int .i64 (T - sT (atR L) i')), (10, .view 5 (List.length L) (rwRow (atR L))), (71, .view 5 (List.length L) (rwRow (atR L))), (72, .int .i64 (↑(List.length L) : Int)), (73, .int .i64 (↑i' : Int))] [] 0 []) ∧ P i')) (inR .i64 ((↑k : Int) + (1 : Int)) ∧ ∃ (i' : Nat), some (St.mk [(6, .int .i64 (U - sU (atR L) k - RW.u (atR L (Int.toNat (↑k : Int))))), (7, .int .i64 (T - sT (atR L) k - RW.tv (atR L (Int.toNat (↑k : Int))))), (10, .view 5 (List.length L) (rwRow (atR L))), (71, .view 5 (List.length L) (rwRow (atR L))), (72, .int .i64 (↑(List.length L) : Int)), (73, .int .i64 ((↑k : Int) + (1 : Int)))] [] 0 []) = some (St.mk [(6, .int .i64 (U - sU (atR L) i')), (7, .int .i64 (T - sT (atR L) i')), (10, .view 5 (List.length L) (rwRow (atR L))), (71, .view 5 (List.length L) (rwRow (atR L))), (72, .int .i64 (↑(List.length L) : Int)), (73, .int .i64 (↑i' : Int))] [] 0 []) ∧ P i'))) (inR .i64 ((↑k : Int) + (1 : Int)) ∧ ∃ (i' : Nat), some (St.mk [(6, .int .i64 (U - sU (atR L) k - RW.u (atR L (Int.toNat (↑k : Int))))), (7, .int .i64 (T - sT (atR L) k - RW.tv (atR L (Int.toNat (↑k : Int))))), (10, .view 5 (List.length L) (rwRow (atR L))), (71, .view 5 (List.length L) (rwRow (atR L))), (72, .int .i64 (↑(List.length L) : Int)), (73, .int .i64 ((↑k : Int) + (1 : Int)))] [] 0 []) = some (St.mk [(6, .int .i64 (U - sU (atR L) i')), (7, .int .i64 (T - sT (atR L) i')), (10, .view 5 (List.length L) (rwRow (atR L))), (71, .view 5 (List.length L) (rwRow (atR L))), (72, .int .i64 (↑(List.length L) : Int)), (73, .int .i64 (↑i' : Int))] [] 0 []) ∧ P i'))) (inR .i64 ((↑k : Int) + (1 : Int)) ∧ ∃ (i' : Nat), some (St.mk [(6, .int .i64 (U - sU (atR L) k - RW.u (atR L (Int.toNat (↑k : Int))))), (7, .int .i64 (T - sT (atR L) k - RW.tv (atR L (Int.toNat (↑k : Int))))), (10, .view 5 (List.length L) (rwRow (atR L))), (71, .view 5 (List.length L) (rwRow (atR L))), (72, .int .i64 (↑(List.length L) : Int)), (73, .int .i64 ((↑k : Int) + (1 : Int)))] [] 0 []) = some (St.mk [(6, .int .i64 (U - sU (atR L) i')), (7, .int .i64 (T - sT (atR L) i')), (10, .view 5 (List.length L) (rwRow (atR L))), (71, .view 5 (List.length L) (rwRow (atR L))), (72, .int .i64 (↑(List.length L) : Int)), (73, .int .i64 (↑i' : Int))] [] 0 []) ∧ P i')) (R (.exit 2) (St.mk [(6, .int .i64 (U - sU (atR L) k)), (7, .int .i64 (T - sT (atR L) k))] [] 0 []))) := by kernel_rfl

def awG (i : Nat) : RW := if i < 2 then ⟨[111, 49], [57, 54, 51, 56, 53, 48, 55, 52], 5, 2, 300⟩ else zeroR
theorem trow0_ok (hP : C.P = Tryz.prog) : RSpecOK C 24 R_trow0 := by
  rintro args objs R h
  unfold R_trow0 at h
  split at h
  · rename_i a t
    obtain ⟨rfl, ha, hR⟩ := h
    refine ACalls.nilObj 0 0 1 (intRow fun _ => 0) rfl rfl ?_
    refine (trow_ok hP [.ptr 0 0] [.cells [.view 1 0 (intRow fun _ => 0), .int .i64 a] 28] _ _ _ rfl ⟨rfl, rfl, rfl, ha⟩).mono ?_
    rintro u O ⟨rfl, rfl⟩
    exact hR _ (made_row 0 _ a)
  · exact h.elim

theorem eqSame (g : Nat → RW) (n : Nat) : (decide (n = n) && eqRows g g n) = true := by rw [eqRows_self, decide_eq_true rfl]; rfl

/-- One row, many times. -/
theorem fill_sums (r : RW) (n : Nat) : ∀ k, k ≤ n → sumU r ((List.range k).map (fillR r n)) = r.u * k ∧ sumT r ((List.range k).map (fillR r n)) = r.tv * k
  | 0, _ => ⟨by simp [sumU], by simp [sumT]⟩
  | k + 1, hk => by
    obtain ⟨h1, h2⟩ := fill_sums r n k (by omega)
    have e : fillR r n k = r := by unfold fillR; rw [if_pos (by omega)]
    rw [List.range_succ, List.map_append, sumU_app, sumT_app, h1, h2, List.map_singleton, e]
    simp only [sumU, sumT, sameK_self, cond_true]
    refine ⟨?_, ?_⟩
    · rw [Int.natCast_add, Int.mul_add]; simp
    · rw [Int.natCast_add, Int.mul_add]; simp
theorem fill_comb {r : RW} (hr : rowF r = true) {n : Nat} (h0 : 0 < n) (hn : n ≤ 24000) : svF (fillR r n) n = 0 ∧ combL (fillR r n) n = [⟨r.o, r.p, r.per, r.u * n, r.tv * n⟩] := by
  have hf : ∀ i, i < n → fillR r n i = r := fun i hi => by unfold fillR; rw [if_pos hi]
  have hall : ∀ k, k ≤ n → allRows (fillR r n) k = true := fun k => by
    induction k with
    | zero => intro _; rfl
    | succ k ih => intro hk; rw [allRows, ih (by omega), hf k (by omega), hr]; rfl
  have hv : svF (fillR r n) n = 0 := by unfold svF; rw [decide_eq_false (by omega), hall n (Nat.le_refl _)]; rfl
  refine ⟨hv, ?_⟩
  unfold combL
  rw [decide_eq_true hv]
  show srtR (sumsF (fillR r n) n) = _
  have hs := sumsF_ok (fillR r n) n
  obtain ⟨a1, a2⟩ := srt_asc keyC_preC (l := sumsF (fillR r n) n) (hs.parts.imp fun {a b} h q => by rw [keyC_zero.1 q] at h; cases h)
  refine (hs.perm (List.Perm.refl _) a2.symm).uniq ⟨?_, fun x hx => ?_, fun x hx => ?_⟩ a1 ?_
  · simp
  · obtain rfl := List.mem_singleton.1 hx
    have hk : sameK ⟨r.o, r.p, r.per, r.u * n, r.tv * n⟩ r = true := sameK_iff.2 ⟨rfl, rfl, rfl⟩
    obtain ⟨e1, e2⟩ := fill_sums r n n (Nat.le_refl _)
    refine ⟨⟨r, List.mem_map.2 ⟨0, List.mem_range.2 h0, hf 0 h0⟩, hk⟩, ?_, ?_⟩
    · rw [sumU_congr hk, e1]
    · rw [sumT_congr hk, e2]
  · obtain ⟨i, hi, rfl⟩ := List.mem_map.1 hx
    rw [hf i (List.mem_range.1 hi)]
    exact ⟨_, List.mem_singleton.2 rfl, sameK_iff.2 ⟨rfl, rfl, rfl⟩⟩
  · simp [Asc]

theorem awG_vals : svF awG 2 = 0 ∧ combL awG 2 = [⟨[111, 49], [57, 54, 51, 56, 53, 48, 55, 52], 5, 4, 600⟩] := by
  have e : awG = fillR ⟨[111, 49], [57, 54, 51, 56, 53, 48, 55, 52], 5, 2, 300⟩ 2 := rfl
  rw [e]
  exact fill_comb (by decide +kernel) (by omega) (by omega)
end Go.Eng
/- The laws of scanner rows: they answer 'true'. -/
namespace Go.Eng
open Go.Proofs Go.RowKit
variable {C : Ctx} [C.Loose]
set_option maxRecDepth 20000
theorem sumsF_congr {g h : Nat → RW} : ∀ {n : Nat}, (∀ i, i < n → g i = h i) → sumsF g n = sumsF h n
  | 0, _ => rfl
  | n + 1, e => by rw [sumsF, sumsF, sumsF_congr fun i hi => e i (by omega), e n (by omega)]
theorem allRows_congr {g h : Nat → RW} : ∀ {n : Nat}, (∀ i, i < n → g i = h i) → allRows g n = allRows h n
  | 0, _ => rfl
  | n + 1, e => by rw [allRows, allRows, allRows_congr fun i hi => e i (by omega), e n (by omega)]
theorem comb_congr {g h : Nat → RW} {n : Nat} (e : ∀ i, i < n → g i = h i) : svF g n = svF h n ∧ combL g n = combL h n := by
  have h1 : svF g n = svF h n := by unfold svF; rw [allRows_congr e]
  exact ⟨h1, by unfold combL; rw [h1, sumsF_congr e]⟩

theorem awake13_ok (hP : C.P = Tryz.prog) (hL : ∀ w, C.laid w → LaidW w) : SpecOK C 22 S_awake13 := by
  rintro args objs U Os vc h hvc
  unfold S_awake13 at h
  split at h <;> simp only [Option.some.injEq, Prod.mk.injEq, reduceCtorEq] at h
  obtain ⟨rfl, rfl, rfl⟩ := h
  refine SpecOK.wp0 (prg hP) [(17, .det S_combO)] 0 (.cons (combO_ok hP hL) .nil) (hP ▸ Tryz.func22) rfl rfl rfl ?_
  rw [nf_aw13]
  generalize hf : chunkA _ _ = f
  have f0 : f 0 = rwRow awG 0 := by rw [← hf]; rfl
  have f1 : f 1 = rwRow awG 1 := by rw [← hf]; rfl
  have two : ∀ {p : Nat → Prop}, p 0 → p 1 → ∀ i, i < 2 → p i := fun h0 h1 i hi => by
    match i, hi with
    | 0, _ => exact h0
    | 1, _ => exact h1
  have r0 : rwOf f 0 = awG 0 := by unfold rwOf; rw [f0]; rfl
  have r1 : rwOf f 1 = awG 1 := by unfold rwOf; rw [f1]; rfl
  have e : combL (rwOf f) 2 = _ := (comb_congr (n := 2) (two r0 r1)).2.trans awG_vals.2
  rw [e]
  refine ⟨⟨by omega, rfl, by omega⟩, two (by rw [f0]; rfl) (by rw [f1]; rfl), ⟨rfl, by omega, two (by rw [r0, f0]; rfl) (by rw [r1, f1]; rfl), two (by rw [r0]; decide) (by rw [r1]; decide)⟩, ⟨⟨by omega, by decide, rfl⟩, ⟨by omega, by decide, rfl⟩, rfl, rfl⟩⟩

/-- The law of any rows and of made ones. -/
theorem lsv_ok (hP : C.P = Tryz.prog) (hL : ∀ w, C.laid w → LaidW w) (n : Nat) (g : Nat → RW) (m : Nat) (v : Nat → Int) : ADet C 3 [.view 5 n (rwRow g), .view 1 m (intRow v)] [] (.bool true) [] := by
  refine SpecOK.wpL (prg hP) [(15, .det S_raw13), (16, .rel R_sp13), (17, .det S_comb), (18, .det S_comb), (19, .det S_sval), (20, .det S_sval), (21, .det S_same13), (22, .det S_awake13)] [] 3
    (.cons (raw13_ok hP) (.cons (sp13_ok hP) (.cons (comb_ok hP hL) (.cons (rcomb_ok hP) (.cons (sval_ok hP hL) (.cons (rval_ok hP) (.cons (same13_ok hP) (.cons (awake13_ok hP hL) .nil)))))))) (hP ▸ Tryz.func3) rfl rfl rfl [] (by kernel_rfl) trivial ?_
  rw [nf_lsv]
  have hlen : ∀ (g : Nat → RW) (k : Nat), k ≤ 15 → (combL g k).length ≤ 1000000 := fun g k hk => by
    unfold combL
    cases decide (svF g k = 0) with
    | false => exact Nat.zero_le _
    | true =>
      have h1 := sumsF_len g k
      have h2 : (srtR (sumsF g k)).length = (sumsF g k).length := (List.mergeSort_perm _ _).length_eq
      show (srtR (sumsF g k)).length ≤ _
      omega
  have hcut : ∀ i, i < min n 15 → (cutR g i).o.length < 4294967281 := fun i _ => by
    show ((g i).o.take 30).length < _
    rw [List.length_take]; omega
  have hm : min n 15 ≤ 15 := Nat.min_le_right _ _
  refine ⟨rfl, rfl, rfl, rfl, ⟨by omega, by omega⟩, fun c g' a' hc ha' hs => ?_⟩
  have hs' : ∀ i, i < c → (g' i).o.length < 4294967281 := fun i hi => by have := hs i hi; omega
  have s1 : min n 15 ≤ 1000000 ∧ rwRow (cutR g) = rwRow (rwOf (rwRow (cutR g))) ∧ ∀ i, i < min n 15 → (cutR g i).o.length < 4294967281 := ⟨by omega, rfl, hcut⟩
  have s2 : c ≤ 1000000 ∧ rwRow g' = rwRow (rwOf (rwRow g')) ∧ ∀ i, i < c → (g' i).o.length < 4294967281 := ⟨by omega, rfl, hs'⟩
  refine ⟨⟨by omega, rfl, by omega⟩, ⟨by omega, by omega⟩, ⟨by omega, rfl⟩, s1, s1, s1, s1, condP_ndec (fun q => absurd rfl q) (fun _ => condP_ndec (fun q => absurd rfl q) (fun _ => ⟨⟨hlen (cutR g) (min n 15) hm, rfl, rfl⟩, condP_not (fun q => ?_) (fun _ => ⟨by simp only [inR]; omega, ⟨by omega, by omega⟩, ⟨by omega, rfl⟩, s2, s2, s2, s2, condP_ndec (fun q => absurd rfl q) (fun _ => condP_ndec (fun q => absurd rfl q) (fun _ => ⟨⟨hlen g' c (by omega), rfl, rfl⟩, condP_not (fun q => ?_) (fun _ => ⟨by simp only [inR]; omega, trivial, rfl, rfl⟩)⟩))⟩)⟩))⟩
  · exact absurd (q.symm.trans (eqSame _ _)) (by decide)
  · exact absurd (q.symm.trans (eqSame _ _)) (by decide)

theorem mn_loop (hP : C.P = Tryz.prog) (n : Nat) : LoopOK C 0 90 (loopC Tryz.f4 6) (L_mn n) := by
  have _ : C.Loose := inferInstance
  rintro st Q ⟨r, h0, hr, hn, hQ⟩
  refine AWP.frzQ 1 ?_
  refine LoopOK.mk (prg hP) [] 0 .nil [4, 5, 6, 20, 21, 22] [4, 5, 6] [] (S_mn r n) (fun k => k ≤ n) (fun k => n - k) 0 (Nat.zero_le _) h0 (fun k hk => ?_) (fun i => ⟨fun _ _ => rfl, trivial⟩)
  rw [nf_mn_round, Int.toNat_natCast]
  refine condP_dec (fun h1 => ⟨⟨by omega, by omega⟩, ⟨rfl, by omega, rfl⟩, by simp only [inR]; omega, k + 1, ⟨rfl, rfl, ⟨rfl, rfl, rfl, rfl, rfl, fun j hj => ?_⟩, trivial⟩, by omega, by omega⟩) (fun h1 => ?_)
  · show (if j = k then _ else rwRow (fillR r k) j) = rwRow (fillR r (k + 1)) j
    unfold rwRow fillR
    by_cases e : j = k
    · rw [if_pos e, if_pos (by omega)]
    · rw [if_neg e]
      by_cases q : j < k
      · rw [if_pos q, if_pos (by omega)]
      · rw [if_neg q, if_neg (by omega)]
  · have : k = n := by omega
    subst this
    refine ⟨fun _ _ => rfl, _, rowsEqR _, fun _ _ => rfl, ?_⟩
    have hb : Nat.ble k k = true := Nat.ble_eq_true_of_le (Nat.le_refl _)
    have e : frzSt 1 ⟨[(4, .int .i64 (k : Int)), (5, .ptr 0 0), (6, .own 1 k)], [(0, .cells [.str r.o, .str r.p, .int .i64 r.per, .int .i64 r.u, .int .i64 r.tv] 39), (1, .row 39 5 k (rwRow (fillR r k)) false)], 2, []⟩
        = ⟨[(4, .int .i64 (k : Int)), (5, .ptr 0 0), (6, .view 5 k (rwRow (fillR r k)))], [(0, .cells [.str r.o, .str r.p, .int .i64 r.per, .int .i64 r.u, .int .i64 r.tv] 39)], 2, []⟩ := by
      show (⟨[(4, frzC 1 5 k (rwRow (fillR r k)) (.int .i64 (k : Int))), (5, frzC 1 5 k (rwRow (fillR r k)) (.ptr 0 0)), (6, frzC 1 5 k (rwRow (fillR r k)) (.own 1 k))], _, 2, []⟩ : St) = _
      simp [frzC, frzA, frz, hb]
      rfl
    rw [e]
    exact hQ

/-- The law of the greatest number of rows. -/
theorem lmn_ok (hP : C.P = Tryz.prog) (hL : ∀ w, C.laid w → LaidW w) (x : Int) : ADet C 4 [.int .i64 x] [] (.bool true) [] := by
  refine SpecOK.wpL (prg hP) [(23, .det S_fold), (24, .rel R_trow0), (17, .det S_comb), (19, .det S_sval), (22, .det S_awake13)] [(6, L_mn (23999 + foldV x 3).toNat)] 0
    (.cons (fold_ok hP) (.cons (trow0_ok hP) (.cons (comb_ok hP hL) (.cons (sval_ok hP hL) (.cons (awake13_ok hP hL) .nil))))) (hP ▸ Tryz.func4) rfl rfl rfl [(loopC Tryz.f4 6, L_mn (23999 + foldV x 3).toNat)] (by kernel_rfl) ⟨mn_loop hP _, trivial⟩ ?_
  rw [nf_lmn]
  have hx := foldV_range (show (1 : Int) ≤ 3 by omega) x
  obtain ⟨n, hn⟩ : ∃ n : Nat, 23999 + foldV x 3 = (n : Int) := ⟨(23999 + foldV x 3).toNat, by omega⟩
  rw [hn, Int.toNat_natCast]
  refine ⟨⟨by omega, by omega⟩, by simp only [inR]; omega, rfl, ⟨by omega, by omega⟩, fun r hr => ⟨⟨by omega, by omega, ?_, by omega⟩, r, ⟨rfl, rfl, ⟨rfl, rfl, rfl, rfl, rfl, fun j hj => ?_⟩, trivial⟩, hr, by omega, ?_⟩⟩
  · show (56 : Int) * (n : Int) ≤ _
    omega
  · show [AV.str [], .str [], .int .i64 0, .int .i64 0, .int .i64 0] = rwRow (fillR r 0) j
    unfold rwRow fillR
    rw [if_neg (Nat.not_lt_zero j)]; rfl
  have hs : n ≤ 1000000 ∧ rwRow (fillR r n) = rwRow (rwOf (rwRow (fillR r n))) ∧ ∀ i, i < n → (fillR r n i).o.length < 4294967281 := ⟨by omega, rfl, fun i hi => by
    unfold fillR
    rw [if_pos hi]
    have := hr.o
    omega⟩
  refine ⟨hs, hs, condP_dec (fun q => ?_) (fun q => ?_)⟩
  · have hv : svF (fillR r n) n = 130 := by unfold svF; rw [decide_eq_true (by omega)]; rfl
    have hc : combL (fillR r n) n = [] := by unfold combL; rw [hv]; rfl
    exact condP_dec (fun _ => condP_dec (fun _ => condP_dec (fun _ => ⟨trivial, rfl, rfl⟩) (fun k => absurd (by rw [show combL (rwOf (rwRow (fillR r n))) n = [] from hc]; rfl) k)) (fun k => absurd rfl k)) (fun k => absurd hv k)
  · obtain ⟨hv, hc⟩ := fill_comb hr.ok (n := n) (by omega) (by omega)
    have hc : combL (rwOf (rwRow (fillR r n))) n = _ := hc
    have hv : svF (rwOf (rwRow (fillR r n))) n = 0 := hv
    have b1 := Int.mul_le_mul hr.u.2 (show (n : Int) ≤ 24000 by omega) (by omega) (by omega)
    have b2 := Int.mul_le_mul hr.tv.2 (show (n : Int) ≤ 24000 by omega) (by omega) (by omega)
    have c1 : 0 ≤ r.u * (n : Int) := Int.mul_nonneg (by have := hr.u; omega) (by omega)
    have c2 : 0 ≤ r.tv * (n : Int) := Int.mul_nonneg (by have := hr.tv; omega) (by omega)
    rw [hc, hv]
    exact condP_dec (fun _ => condP_dec (fun _ => condP_dec (fun _ => ⟨⟨by omega, by show (0 : Int) < 1; omega, rfl⟩, by simp only [inR]; omega, condP_dec (fun _ => ⟨⟨by omega, by show (0 : Int) < 1; omega, rfl⟩, by simp only [inR]; omega, condP_dec (fun _ => ⟨trivial, rfl, rfl⟩) (fun k => absurd rfl k)⟩) (fun k => absurd rfl k)⟩) (fun k => absurd rfl k)) (fun k => absurd rfl k)) (fun k => absurd rfl k)

theorem sU_bound {g : Nat → RW} : ∀ {k : Nat}, (∀ i, i < k → (g i).Made) → 0 ≤ sU g k ∧ sU g k ≤ 20 * k ∧ 0 ≤ sT g k ∧ sT g k ≤ 2400 * k
  | 0, _ => by simp [sU, sT]
  | k + 1, h => by
    have ih := sU_bound (g := g) (k := k) fun i hi => h i (by omega)
    have h1 := (h k (by omega)).u
    have h2 := (h k (by omega)).tv
    rw [sU, sT]
    omega
theorem ad1_loop (hP : C.P = Tryz.prog) : LoopOK C 0 136 (loopC Tryz.f5 6) L_ad1 := by
  have _ : C.Loose := inferInstance
  rintro st Q ⟨c, g, h0, hc, hm, hQ⟩
  refine AWP.ownNil 5 39 5 ?_
  refine LoopOK.mk (prg hP) [] 0 .nil [4, 5, 6, 7, 22, 23, 24] [4, 5, 6, 7] [] (S_ad1 g c) (fun k => k ≤ c) (fun k => c - k) 0 (Nat.zero_le _) h0 (fun k hk => ?_) (fun i => ⟨fun _ _ => rfl, fun _ _ => rfl, trivial⟩)
  rw [nf_ad1_round, Int.toNat_natCast]
  have hb := sU_bound (g := g) (k := k) fun i hi => hm i (by omega)
  refine condP_dec (fun h1 => ?_) (fun h1 => ?_)
  · have hu := (hm k (by omega)).u
    have ht := (hm k (by omega)).tv
    have e : ((c : Int) - 1 - (k : Int)).toNat = c - 1 - k := by omega
    rw [e]
    refine ⟨⟨by omega, by omega⟩, ⟨by omega, rfl⟩, by simp only [inR]; omega, by simp only [inR]; omega, ⟨by omega, by omega⟩, ⟨by omega, rfl⟩, ⟨by omega, rfl, by omega⟩, ⟨⟨Nat.le_refl _, rfl⟩, Nat.le_refl _, rfl, rfl, rfl, by omega, ?_⟩, by simp only [inR]; omega, by simp only [inR]; omega, by simp only [inR]; omega, k + 1, ⟨rfl, ⟨rfl, rfl, rfl, rfl, rfl, fun _ _ => rfl⟩, ⟨rfl, rfl, rfl, rfl, rfl, fun j hj => ?_⟩, trivial⟩, by omega, by omega⟩
    · show (k + 1) * 56 ≤ _
      omega
    · unfold apF
      by_cases h : j < k
      · rw [if_pos h]
      · have : j = k := by omega
        rw [if_neg h, this, Nat.sub_self]; rfl
  · have : k = c := by omega
    subst this
    exact ⟨fun _ _ => rfl, fun _ _ => rfl, _, rowsEqR _, hQ⟩

def totU : List RW → Int
  | [] => 0
  | r :: l => r.u + totU l
def totT : List RW → Int
  | [] => 0
  | r :: l => r.tv + totT l
theorem tot_app : ∀ a b : List RW, totU (a ++ b) = totU a + totU b ∧ totT (a ++ b) = totT a + totT b
  | [], b => by simp [totU, totT]
  | r :: a, b => by
    obtain ⟨h1, h2⟩ := tot_app a b
    rw [List.cons_append, totU, totT, h1, h2, totU, totT]
    omega
theorem tot_perm {a b : List RW} (h : a.Perm b) : totU a = totU b ∧ totT a = totT b := by
  induction h with
  | nil => exact ⟨rfl, rfl⟩
  | cons _ _ ih => rw [totU, totU, totT, totT, ih.1, ih.2]; exact ⟨rfl, rfl⟩
  | swap => simp only [totU, totT]; omega
  | trans _ _ h1 h2 => exact ⟨h1.1.trans h2.1, h1.2.trans h2.2⟩
theorem tot_lst (g : Nat → RW) : ∀ n, totU (lst g n) = sU g n ∧ totT (lst g n) = sT g n
  | 0 => ⟨rfl, rfl⟩
  | n + 1 => by
    obtain ⟨h1, h2⟩ := tot_lst g n
    rw [lst_snoc, (tot_app _ _).1, (tot_app _ _).2, h1, h2, sU, sT]
    simp [totU, totT]
theorem tot_setK : ∀ (L : List RW) (y : RW), totU (setK L y) = totU L + y.u - ((getK L y).map RW.u).getD 0 ∧ totT (setK L y) = totT L + y.tv - ((getK L y).map RW.tv).getD 0
  | [], y => by simp [setK, getK, totU, totT]
  | r :: l, y => by
    obtain ⟨h1, h2⟩ := tot_setK l y
    rw [setK, getK]
    cases sameK r y with
    | true => simp only [cond_true, totU, totT, Option.map_some, Option.getD_some]; omega
    | false => simp only [cond_false, totU, totT, h1, h2]; omega
theorem getK_congr {x y : RW} (h : sameK x y = true) : ∀ L, getK L x = getK L y
  | [] => rfl
  | r :: l => by
    have e : sameK r x = sameK r y := by
      cases q : sameK r x with
      | true => rw [sameK_trans q h]
      | false =>
        cases q' : sameK r y with
        | false => rfl
        | true => rw [sameK_trans q' (sameK_symm h)] at q; cases q
    rw [getK, getK, e, getK_congr h l]
theorem tot_sums (g : Nat → RW) : ∀ n, totU (sumsF g n) = sU g n ∧ totT (sumsF g n) = sT g n
  | 0 => ⟨rfl, rfl⟩
  | n + 1 => by
    obtain ⟨h1, h2⟩ := tot_sums g n
    obtain ⟨s1, s2⟩ := tot_setK (sumsF g n) (addK (sumsF g n) (g n))
    rw [getK_congr (addK_same _ _)] at s1 s2
    rw [sumsF, s1, s2, h1, h2, sU, sT]
    unfold addK
    dsimp only
    omega
/-- Combining the rows in another order. -/
theorem comb_perm {g h : Nat → RW} {n : Nat} (hp : (lst g n).Perm (lst h n)) (hg : svF g n = 0) (hh : svF h n = 0) : combL g n = combL h n := by
  unfold combL
  rw [hg, hh]
  show srtR (sumsF g n) = srtR (sumsF h n)
  have key : ∀ k : Nat → RW, IsSums (lst k n) (srtR (sumsF k n)) ∧ Asc keyC (srtR (sumsF k n)) := fun k => by
    have hs := sumsF_ok k n
    obtain ⟨a1, a2⟩ := srt_asc keyC_preC (l := sumsF k n) (hs.parts.imp fun {a b} h q => by rw [keyC_zero.1 q] at h; cases h)
    exact ⟨hs.perm (List.Perm.refl _) a2.symm, a1⟩
  exact ((key g).1.perm hp (List.Perm.refl _)).uniq (key h).1 (key g).2 (key h).2
theorem rev_perm (g : Nat → RW) : ∀ n, (lst g n).Perm (lst (revR g n) n) := fun n => by
  have : lst (revR g n) n = (lst g n).reverse := by
    apply List.ext_getElem
    · simp [lst]
    · intro i h1 h2
      simp [lst, revR]
  rw [this]
  exact (List.reverse_perm _).symm
theorem made_sv {g : Nat → RW} {n : Nat} (hn : n ≤ 24000) (h : ∀ i, i < n → (g i).Made) : svF g n = 0 := by
  have : ∀ k, k ≤ n → allRows g k = true := fun k => by
    induction k with
    | zero => intro _; rfl
    | succ k ih => intro hk; rw [allRows, ih (by omega), (h k (by omega)).ok]; rfl
  unfold svF
  rw [decide_eq_false (by omega), this n (Nat.le_refl _)]; rfl

theorem ad2_loop (hP : C.P = Tryz.prog) : LoopOK C 0 136 (loopC Tryz.f5 16) L_ad2 := by
  have _ : C.Loose := inferInstance
  rintro st Q ⟨U, T, L, h0, hl, hUT, ha, hb, hQ⟩
  refine LoopOK.mk (prg hP) [] 0 .nil [6, 7, 10, 71, 72, 73] [6, 7] [2] (S_ad2 U T L) (fun k => k ≤ L.length ∧ (0 ≤ sU (atR L) k ∧ sU (atR L) k ≤ 1000 * k) ∧ (0 ≤ sT (atR L) k ∧ sT (atR L) k ≤ 100000 * k)) (fun k => L.length - k) 0 ⟨Nat.zero_le _, by simp [sU], by simp [sT]⟩ h0 (fun k hk => ?_)
  obtain ⟨hk, hu, ht⟩ := hk
  rw [nf_ad2_round, Int.toNat_natCast]
  refine condP_dec (fun h1 => ?_) (fun h1 => ?_)
  · have hkL : k < L.length := by omega
    have hr := hb _ (atR_mem hkL)
    have next : inR .i64 ((k : Int) + 1) ∧ ∃ i' : Nat, some (St.mk [(6, .int .i64 (U - sU (atR L) k - (atR L k).u)), (7, .int .i64 (T - sT (atR L) k - (atR L k).tv)), (10, .view 5 L.length (rwRow (atR L))), (71, .view 5 L.length (rwRow (atR L))), (72, .int .i64 (L.length : Int)), (73, .int .i64 ((k : Int) + 1))] [] 0 []) = some (S_ad2 U T L i') ∧
        ((i' ≤ L.length ∧ (0 ≤ sU (atR L) i' ∧ sU (atR L) i' ≤ 1000 * i') ∧ (0 ≤ sT (atR L) i' ∧ sT (atR L) i' ≤ 100000 * i')) ∧ L.length - i' < L.length - k) := by
      refine ⟨by simp only [inR]; omega, k + 1, ?_, ⟨by omega, ?_, ?_⟩, by omega⟩
      · unfold S_ad2
        rw [sU, sT, Int.sub_sub, Int.sub_sub]; rfl
      · rw [sU]; omega
      · rw [sT]; omega
    refine ⟨⟨by omega, by omega, rfl⟩, by simp only [inR]; omega, by simp only [inR]; omega, condP_dec (fun h2 => ?_) (fun _ => next)⟩
    have e : ((k : Int) - 1).toNat = k - 1 := by omega
    rw [e]
    have hlt := asc_at ha (show k - 1 < k by omega) hkL
    generalize atR L (k - 1) = p at *
    have ek : keyC p (atR L k) = if cmpS p.o (atR L k).o = 0 then (if cmpS p.p (atR L k).p = 0 then cmpI p.per (atR L k).per else cmpS p.p (atR L k).p) else cmpS p.o (atR L k).o := by
      unfold keyC
      simp only [orL]
      by_cases h1 : cmpS p.o (atR L k).o = 0
      · by_cases h2 : cmpS p.p (atR L k).p = 0
        · by_cases h3 : cmpI p.per (atR L k).per = 0 <;> simp [h1, h2, h3]
        · simp [h1, h2]
      · simp [h1]
    rw [ek] at hlt
    have le_ok : ∀ a b : List UInt8, (cmpS a b = 0 ∨ cmpS a b < 0) → (Op.bytesLess a b || decide (a = b)) = true := fun a b h => by
      rcases h with h | h
      · rw [decide_eq_true (cmpS_zero.1 h), Bool.or_true]
      · rw [cmpS_neg.1 h, Bool.true_or]
    refine ⟨by simp only [inR]; omega, ⟨by omega, by omega, rfl⟩, condP_not (fun q => ?_) (fun _ => condP_dec (fun q1 => condP_not (fun q => ?_) (fun _ => condP_dec (fun q2 => condP_dec (fun q => ?_) (fun _ => next)) (fun _ => next))) (fun _ => next))⟩
    · refine absurd q ?_
      rw [le_ok]
      · decide
      · by_cases z : cmpS p.o (atR L k).o = 0
        · exact .inl z
        · rw [if_neg z] at hlt; exact .inr hlt
    · refine absurd q ?_
      rw [if_pos (cmpS_zero.2 q1)] at hlt
      rw [le_ok]
      · decide
      · by_cases z : cmpS p.p (atR L k).p = 0
        · exact .inl z
        · rw [if_neg z] at hlt; exact .inr hlt
    · rw [if_pos (cmpS_zero.2 q1), if_pos (cmpS_zero.2 q2)] at hlt
      have := cmpI_val p.per (atR L k).per
      omega
  · have : k = L.length := by omega
    subst this
    exact hQ

/-- The law of added rows. -/
theorem lad_ok (hP : C.P = Tryz.prog) (hL : ∀ w, C.laid w → LaidW w) (m : Nat) (v : Nat → Int) : ADet C 5 [.view 1 m (intRow v)] [] (.bool true) [] := by
  refine SpecOK.wpL (prg hP) [(25, .rel R_rows), (17, .det S_combO), (21, .det S_same13), (22, .det S_awake13)] [(6, L_ad1), (16, L_ad2)] 0
    (.cons (rows_ok hP) (.cons (combO_ok hP hL) (.cons (same13_ok hP) (.cons (awake13_ok hP hL) .nil)))) (hP ▸ Tryz.func5) rfl rfl rfl [(loopC Tryz.f5 6, L_ad1), (loopC Tryz.f5 16, L_ad2)] (by kernel_rfl) ⟨ad1_loop hP, ad2_loop hP, trivial⟩ ?_
  rw [nf_lad]
  refine ⟨rfl, rfl, rfl, ⟨by omega, by omega⟩, ⟨by omega, by omega⟩, fun c g a' hc ha' hm => ⟨fun _ _ => rfl, c, g, ⟨rfl, ⟨rfl, rfl, rfl, rfl, rfl, fun _ _ => rfl⟩, ⟨rfl, rfl, rfl, rfl, rfl, fun i hi => absurd hi (Nat.not_lt_zero i)⟩, trivial⟩, hc, hm, ?_⟩⟩
  have hc : c ≤ 14 := hc
  have hrev : ∀ i, i < c → (revR g c i).Made := fun i hi => hm _ (by omega)
  have v1 : svF (rwOf (rwRow g)) c = 0 := made_sv (by omega) hm
  have v2 : svF (rwOf (rwRow (revR g c))) c = 0 := made_sv (by omega) hrev
  have hcomb : combL (rwOf (rwRow (revR g c))) c = combL (rwOf (rwRow g)) c := (comb_perm (rev_perm g c) v1 v2).symm
  have hCl : combL g c = srtR (sumsF g c) := by unfold combL; rw [show svF g c = 0 from v1]; rfl
  have hs := sumsF_ok g c
  obtain ⟨a1, a2⟩ := srt_asc keyC_preC (l := sumsF g c) (hs.parts.imp fun {a b} h q => by rw [keyC_zero.1 q] at h; cases h)
  have hlen : (combL g c).length ≤ c := by rw [hCl]; have h1 : (srtR (sumsF g c)).length = _ := a2.length_eq; have := sumsF_len g c; omega
  have hb := sU_bound (g := g) (k := c) hm
  have tU : sU (atR (combL g c)) (combL g c).length = sU g c ∧ sT (atR (combL g c)) (combL g c).length = sT g c := by
    obtain ⟨t1, t2⟩ := tot_lst (atR (combL g c)) (combL g c).length
    rw [lst_atR] at t1 t2
    obtain ⟨p1, p2⟩ := tot_perm a2
    obtain ⟨q1, q2⟩ := tot_sums g c
    rw [hCl] at t1 t2 ⊢
    exact ⟨t1.symm.trans (p1.trans q1), t2.symm.trans (p2.trans q2)⟩
  rw [hcomb]
  refine ⟨fun _ _ => rfl, ⟨rfl, by omega, fun _ _ => rfl, fun i hi => by have := (hm i hi).o; show (g i).o.length < _; omega⟩, fun _ _ => rfl, ⟨rfl, by omega, fun _ _ => rfl, fun i hi => by have := (hrev i hi).o; show (revR g c i).o.length < _; omega⟩, condP_ndec (fun q => absurd v1 q) (fun _ => condP_ndec (fun q => absurd v2 q) (fun _ => ⟨⟨by show (combL g c).length ≤ _; omega, rfl, rfl⟩, condP_not (fun q => absurd (q.symm.trans (eqSame _ _)) (by decide)) (fun _ => ⟨sU g c, sT g c, combL g c, ?_, by omega, ⟨by omega, by omega, by omega, by omega⟩, by rw [hCl]; exact a1, fun r hr => ?_, ?_⟩)⟩))⟩
  · have e1 : sU g c - sU (atR (combL g c)) 0 = sU g c := by show sU g c - 0 = _; omega
    have e2 : sT g c - sT (atR (combL g c)) 0 = sT g c := by show sT g c - 0 = _; omega
    rw [e1, e2]; rfl
  · rw [hCl] at hr
    have hr' := a2.mem_iff.1 hr
    obtain ⟨⟨x, hx, _⟩, e1, e2⟩ := hs.sums r hr'
    have hall : ∀ y ∈ (List.range c).map g, y.Made := fun y h => by
      obtain ⟨j, hj, rfl⟩ := List.mem_map.1 h
      exact hm j (List.mem_range.1 hj)
    have b1 := sumU_le (B := 20) (by omega) r (l := (List.range c).map g) fun y h => by have := (hall y h).u; omega
    have b2 := sumT_le (B := 2400) (by omega) r (l := (List.range c).map g) fun y h => by have := (hall y h).tv; omega
    rw [List.length_map, List.length_range] at b1 b2
    omega
  · rw [tU.1, tU.2]
    exact condP_dec (fun _ => condP_dec (fun _ => ⟨trivial, rfl, rfl⟩) (fun q => absurd (Int.sub_self _) q)) (fun q => absurd (Int.sub_self _) q)
end Go.Eng
/- The row of ScannerValid. -/
namespace Go.Eng
open Go.Proofs Go.RowKit Go.ChangeShapes Go.WideShapes Go.ChangeAt

theorem params_Sv : Tryz.f3.params = #[22, 23] := by kernel_rfl

set_option maxRecDepth 100000 in
theorem lifted_Sv (os : Os) (started : os.Started) (H : Type) (enc : TypeId × Value → H) :
    ReturnsInHanded {} Tryz.checked os 3 .any (fun w args => (Go.Proofs.YtokpcnppihgdlaaGreatDoor.Rows.scannerValidSpec.pre enc Tryz.prog Tryz.f3 [] false w args ∧ laidMetH Tryz.prog Go.Proofs.YtokpcnppihgdlaaGreatDoor.Rows.scannerValidRow.laid w) ∧ sizedMet enc Tryz.prog Tryz.f3 (OpenSpec.ofChange Go.Proofs.YtokpcnppihgdlaaGreatDoor.Rows.scannerValidSpec) false w args)
      (Go.Proofs.YtokpcnppihgdlaaGreatDoor.Rows.scannerValidSpec.post enc Tryz.prog Tryz.f3 false true false false) := by
  refine handed_and_shaped (C := Tryz.checked) (X := fun w _ => laidMetH Tryz.prog Go.Proofs.YtokpcnppihgdlaaGreatDoor.Rows.scannerValidRow.laid w) (fun _ _ _ hh h => h.of_heap hh) ownK started (by kernel_rfl) Tryz.func3
    (ChangeSpec.witness_at (enc := enc) (C := Tryz.checked) (os := os) (X := fun w _ => laidMetH Tryz.prog Go.Proofs.YtokpcnppihgdlaaGreatDoor.Rows.scannerValidRow.laid w) false (laidWorld os) #[.slice none 0 0, .slice none 0 0] 8 rfl (by kernel_rfl) (by kernel_rfl) (by kernel_rfl) (by kernel_rfl) (by kernel_rfl) (laid_met os _)) ?_
  intro W base args ds gs before hval0 hW hL hsh
  have hval : ∀ (j : Nat) t v, Tryz.f3.params[j]? = some t → args[j]? = some v → Value.okWide Tryz.prog W .any base t v := hval0
  have hW' := hW
  obtain ⟨p, q, hA0, hV, rfl, hfz, hnd⟩ := hW
  have hA : DataW.TrodAll enc Tryz.prog W 0 (fun _ => true) true Tryz.f3.params.toList args.toList ds p := hA0
  rw [params_Sv] at hA hval
  obtain ⟨v0, vs0, d0, ds0, p0, q0, hargs, rfl, rfl, h0, r0⟩ := trodAll_cons hA
  obtain ⟨v1, vs1, d1, ds1, p1, q1, rfl, rfl, rfl, h1, r1⟩ := trodAll_cons r0
  obtain ⟨rfl, rfl, rfl⟩ := trodAll_nil r1
  obtain rfl : args = #[v0, v1] := by cases args; simp_all
  obtain ⟨rfl, rfl⟩ := trodVars_none hV
  obtain ⟨a0, len0, cap0, rfl⟩ := okWide_slice undRs (hval 0 22 v0 rfl rfl)
  obtain ⟨a1, len1, cap1, rfl⟩ := okWide_slice undIs (hval 1 23 v1 rfl rfl)
  have k0 := h0
  have k1 := h1
  have lt0 : ∀ x ∈ p0, x.block < W.heap.size := by obtain ⟨m, hm⟩ := k0; exact DataW.trod_lt m _ _ _ hm
  have lt1 : ∀ x ∈ p1, x.block < W.heap.size := by obtain ⟨m, hm⟩ := k1; exact DataW.trod_lt m _ _ _ hm
  obtain ⟨m0, hm0⟩ := h0
  obtain ⟨m1, hm1⟩ := h1
  obtain ⟨A0, n0, c0, w0, e0, V0⟩ := read_rows hm0
  have e0 : [Value.slice a0 len0 cap0] = [Value.slice A0 n0 c0] := e0
  simp only [List.cons.injEq, and_true] at e0
  rw [← e0] at V0
  obtain ⟨A1, n1, c1, w1, e1, V1⟩ := read_ints hm1
  have e1 : [Value.slice a1 len1 cap1] = [Value.slice A1 n1 c1] := e1
  simp only [List.cons.injEq, and_true] at e1
  rw [← e1] at V1
  have lw := laidW_of hL hsh
  refine (ADet.top (C := cx) (lsv_ok rfl (fun _ h => h) n0 w0 n1 w1) lw (gsz_le lw) (cargs := [.slice a0 len0 cap0, .slice a1 len1 cap1]) rfl (fun j x u hx hu => ?_)).mono fun e W' ⟨he, bel⟩ => ?_
  · match j with
    | 0 => obtain rfl := Option.some.inj hx; obtain rfl := Option.some.inj hu; exact V0
    | 1 => obtain rfl := Option.some.inj hx; obtain rfl := Option.some.inj hu; exact V1
    | j + 2 => simp at hx
  · subst he
    exact ⟨_, rfl, _, _, _, [], _, [], hW', trodAll_mk1 (shut_bool (show Tryz.prog.underlying 4 = some .bool by kernel_rfl) _), (trodAll_cons_mk (Below.trod laidOut (by kernel_rfl) (of_decide_eq_true (by kernel_rfl)) k0 bel lt0) (trodAll_cons_mk (Below.trod laidOut (by kernel_rfl) (of_decide_eq_true (by kernel_rfl)) k1 bel lt1) trodAll_mk0)), rfl, bel.frame _, fun h => by cases h⟩

set_option maxRecDepth 100000 in
set_option maxHeartbeats 8000000 in
theorem closed_Sv : joinedFacts Tryz.prog 3 Tryz.f3 Go.Proofs.YtokpcnppihgdlaaGreatDoor.Rows.scannerValidSpec Go.Proofs.YtokpcnppihgdlaaGreatDoor.Rows.scannerValidRow = true := by
  unfold joinedFacts
  simp only [Bool.and_eq_true]
  repeat' apply And.intro
  all_goals (as_aux_lemma => kernel_rfl)
set_option maxRecDepth 100000 in
theorem inst_Sv : Tryz.f3.isInstance Tryz.prog Go.Proofs.YtokpcnppihgdlaaGreatDoor.Rows.scannerValidRow.origin Go.Proofs.YtokpcnppihgdlaaGreatDoor.Rows.scannerValidRow.targs := of_decide_eq_true (by kernel_rfl)
set_option maxRecDepth 100000 in
theorem over_Sv : Go.Proofs.YtokpcnppihgdlaaGreatDoor.Rows.scannerValidRow.holds Go.Proofs.YtokpcnppihgdlaaGreatDoor.Tryz.pinned (OpenSpec.ofChange Go.Proofs.YtokpcnppihgdlaaGreatDoor.Rows.scannerValidSpec) :=
  OpenClaim.holds_of_wide 3 Tryz.f3 rfl rfl rfl rfl rfl rfl rfl ⟨rfl, rfl, rfl, rfl, rfl⟩ rfl rfl rfl rfl rfl (by kernel_rfl) Tryz.func3 closed_Sv
    inst_Sv (by unfold Func.isWrapper; rw [if_neg (of_decide_eq_false (by kernel_rfl))]; exact ⟨rfl, rfl⟩)
    (fun os started H enc _ => lifted_Sv os started H enc)
end Go.Eng
/- What all cards of the program share. -/
namespace Go.Proofs.YtokpcnppihgdlaaGreatDoor
open Go
def harB : Bool × String := (true, "9fc102e4074b6cbfcb17ff81fe27951d79d0a08a23044dbb02ad96fa3f9cf2ef")
set_option maxRecDepth 100000 in
theorem mainB : Tryz.prog.mainIs = some (harB.1, harB.2.toList) := by kernel_rfl
set_option maxRecDepth 100000 in
theorem looksB : true = Tryz.prog.looks [] := by kernel_rfl
end Go.Proofs.YtokpcnppihgdlaaGreatDoor
/- The tied card of ScannerValid: its statement is 'ScannerValidCardSaid' of the given cards. -/
namespace Go.Proofs.YtokpcnppihgdlaaGreatDoor
open Go

set_option maxRecDepth 100000 in
theorem wf_Sv : Rows.scannerValidRow.wfByText (OpenSpec.ofChange Rows.scannerValidSpec) = true := by kernel_rfl
set_option maxRecDepth 100000 in
theorem goes_Sv : false = Rows.scannerValidRow.goesBy Tryz.prog := by kernel_rfl
theorem named_Sv : Tryz.prog.funcNamed "priceoffice/priceofficelaw13.ScannerValid" = some 3 := by kernel_rfl
theorem stand_Sv0 : Tryz.prog.wantsStandIn 22 = false := by kernel_rfl
theorem stand_Sv1 : Tryz.prog.wantsStandIn 23 = false := by kernel_rfl

theorem card_Sv : Rows.ScannerValidCardSaid :=
  Claim7.holds_tied_plain_at .later [] [.data, .data, .data, .data, .sentinel, .sentinel, .pinned] true harB true
    Go.Eng.over_Sv (fun _ h => by cases h) wf_Sv (fun _ h => by cases h) scannerValid_row_tie rfl ⟨rfl, rfl⟩ mainB rfl
    (fun f fn hf hfn => by
      obtain rfl : f = 3 := Option.some.inj (named_Sv.symm.trans hf) |>.symm
      obtain rfl : fn = Tryz.f3 := (Option.some.inj (Tryz.func3.symm.trans hfn)).symm
      exact ⟨looksB, fun j t ht => by
        rw [Go.Eng.params_Sv] at ht
        have h3 : t = 22 ∨ t = 23 := by
          rcases j with _ | _ | j
          · exact .inl (by simpa using ht.symm)
          · exact .inr ((by simpa using ht.symm))
          · simp at ht
        rcases h3 with rfl | rfl
        · exact stand_Sv0
        · exact stand_Sv1⟩)
    goes_Sv
end Go.Proofs.YtokpcnppihgdlaaGreatDoor
