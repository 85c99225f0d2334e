/- The tied card of ProductCatalogs: its statement is 'ProductCatalogsCardSaid' of the given cards. -/
import Derived.Test.YtnjaabibmgdeoaaDoorCn
import Derived.Test.YtnjaabibmgdeoaaDoorCo
import Derived.Test.YtnjaabibmgdeoaaDoorCp
import Derived.Test.YtnjaabibmgdeoaaDoorCr
import Derived.Test.YtnjaabibmgdeoaaDoorCm
import Derived.Test.YtnjaabibmgdeoaaDoorCards
import Derived.Test.YtnjaabibmgdeoaaDoorTie
import Derived.SevenTiedAt
/- The laws' sanity check. -/
namespace Go.Eng
open Go.Proofs Go.RowKit
variable {C : Ctx}
set_option maxRecDepth 20000
theorem nf_awake (R : AV → List (Nat × AObj) → Prop) : wpFn te [(29, .det S_checkDigit), (21, .det S_validID)] [] 0 Tryd.f10 [] [] R = (True ∧ True ∧ R (.bool true) []) := by kernel_rfl

theorem awake_ok (hP : C.P = Tryd.prog) : SpecOK C 10 S_awake := by
  rintro args objs U Os vc h hvc
  unfold S_awake at h
  split at h <;> simp only [Option.some.injEq, Prod.mk.injEq, reduceCtorEq] at h
  obtain ⟨rfl, rfl, rfl⟩ := h
  refine SpecOK.wp0 (prg hP) [(29, .det S_checkDigit), (21, .det S_validID)] 0 (.cons (checkDigit_ok hP (trim_ok hP)) (.cons (validID_ok hP (trim_ok hP)) .nil)) (hP ▸ Tryd.func10) rfl rfl rfl ?_
  rw [nf_awake]
  exact ⟨trivial, trivial, rfl, rfl⟩

end Go.Eng
/- The laws of catalogs. -/
namespace Go.Eng
open Go.Proofs Go.RowKit
variable {C : Ctx}
set_option maxRecDepth 20000
theorem nf_pm (n : Int) (R : AV → List (Nat × AObj) → Prop) : wpFn te [(11, .det S_fold), (13, .det S_vcat), (10, .det S_awake)] [(4, L_pm (199 + foldV n 3))] 0 Tryd.f4 [.int .i64 n] [] R = (((1 : Int) ≤ (3 : Int) ∧ (3 : Int) ≤ (1000000 : Int)) ∧ inR .i64 ((199 : Int) + foldV n (3 : Int)) ∧ (TEq [(3, .ptr 0 0), (4, .own 1 0), (11, .int .i64 ((199 : Int) + foldV n (3 : Int))), (12, .int .i64 0)] [(3, .ptr 0 0), (4, .own 1 0), (11, .int .i64 ((199 : Int) + foldV n (3 : Int))), (12, .int .i64 (↑(CatS.c (CatS.mk 0 (fun (x : Nat) => default) (0 : Int))) : Int))] ∧ RowsEq [(0, .cells [.view 1 0 (intRow fun (x : Nat) => (0 : Int)), .int .i64 0] 31), (1, .row 26 7 0 (fun (x : Nat) => []) false)] [(0, .cells [.view 1 0 (intRow fun (x : Nat) => (0 : Int)), .int .i64 (CatS.a (CatS.mk 0 (fun (x : Nat) => default) (0 : Int)))] 31), (1, .row 26 7 0 (pdRow (CatS.g (CatS.mk 0 (fun (x : Nat) => default) (0 : Int)))) false)]) ∧ ((0 : Int) ≤ (199 : Int) + foldV n (3 : Int) ∧ (199 : Int) + foldV n (3 : Int) ≤ (201 : Int)) ∧ ∀ (i : CatS), CatS.c i = Int.toNat ((199 : Int) + foldV n (3 : Int)) → (∀ (j : Nat), j < CatS.c i → PR.Short (CatS.g i j) ∧ PR.id (CatS.g i j) = idF (↑j : Int) ∧ errOf (CatS.g i j) = (0 : Int)) → (∀ (i_1 : Nat), i_1 < CatS.c i → true = true) ∧ (26 = 26 ∧ false = false ∧ CatS.c i = CatS.c i ∧ CatS.c i ≤ 1000 ∧ pdRow (CatS.g i) = pdRow (prOf (pdRow (CatS.g i))) ∧ ∀ (i_1 : Nat), i_1 < CatS.c i → PR.Short (prOf (pdRow (CatS.g i)) i_1)) ∧ (∀ (i_1 : Nat), i_1 < CatS.c i → true = true) ∧ condP (decide (decide ((200 : Int) < (↑(CatS.c i) : Int)) = decide (catF (prOf (pdRow (CatS.g i))) (CatS.c i) = (95 : Int)))) (condP (decide (catF (prOf (pdRow (CatS.g i))) (CatS.c i) = (0 : Int))) (True ∧ R (.bool true) []) (condP (decide (catF (prOf (pdRow (CatS.g i))) (CatS.c i) = (95 : Int))) (True ∧ R (.bool true) []) (R (.bool false) []))) (R (.bool false) [])) := by kernel_rfl
theorem nf_pm_round (N : Int) (i : CatS) (P : CatS → Prop) (R : Exit → St → Prop) : roundP ⟨te, [(12, .rel R_itemV)], [], 0, 41, 0⟩ (loopB Tryd.f4 4) [3, 4, 11, 12] [4] [] (S_pm N) P R (S_pm N i) = (condP (decide ((↑(CatS.c i) : Int) < N)) (31 = 31 ∧ 1 = 1 ∧ (intRow fun (x : Nat) => (0 : Int)) = intRow (vInt (intRow fun (x : Nat) => (0 : Int))) ∧ ((0 : Int) ≤ CatS.a i ∧ CatS.a i ≤ (4611686018427387000 : Int)) ∧ ∀ (p : PR) (a' : Int), PR.Short p → a' = CatS.a i + (5 : Int) → PR.id p = idF (↑(CatS.c i) : Int) → valF (PR.id p) (PR.code p) (PR.brand p) (PR.d p) (PR.c p) (PR.q p) (PR.na p) (PR.nm p) (PR.vl p) = (0 : Int) → (7 ≤ 16777216 ∧ 7 = 7 ∧ 1 ≤ 9223372036854775807) ∧ ((1 ≤ 1 ∧ 7 = 7) ∧ CatS.c i ≤ CatS.c i ∧ 7 = 7 ∧ 26 = 26 ∧ 7 = 7 ∧ CatS.c i + 1 ≤ 9223372036854775807 ∧ (CatS.c i + 1) * TI.bytes (TI.mk (TypeDesc.struct #[Field.mk "ID" (9 : TypeId) 0 false "" "" 0, Field.mk "Code" (9 : TypeId) 1 false "" "" 16, Field.mk "Brand" (9 : TypeId) 2 false "" "" 32, Field.mk "Size" (23 : TypeId) 3 false "" "" 48, Field.mk "Attributes" (24 : TypeId) 6 false "" "" 72]) 7 96 (Value.agg #[Value.string (ByteArray.mk #[]), Value.string (ByteArray.mk #[]), Value.string (ByteArray.mk #[]), Value.int IntKind.i64 0, Value.int IntKind.i64 0, Value.int IntKind.i64 0, Value.slice none 0 0]) true) ≤ 140737488355328) ∧ inR .i64 ((↑(CatS.c i) : Int) + (1 : Int)) ∧ ∃ (i' : CatS), (TEq [(3, .ptr 0 0), (4, .own 1 (CatS.c i + 1)), (11, .int .i64 N), (12, .int .i64 ((↑(CatS.c i) : Int) + (1 : Int)))] [(3, .ptr 0 0), (4, .own 1 (CatS.c i')), (11, .int .i64 N), (12, .int .i64 (↑(CatS.c i') : Int))] ∧ RowsEq [(0, .cells [.view 1 0 (intRow fun (x : Nat) => (0 : Int)), .int .i64 a'] 31), (1, .row 26 7 (CatS.c i + 1) (apF (CatS.c i) (pdRow (CatS.g i)) (chunkA (TI.sz (TI.mk (TypeDesc.struct #[Field.mk "ID" (9 : TypeId) 0 false "" "" 0, Field.mk "Code" (9 : TypeId) 1 false "" "" 16, Field.mk "Brand" (9 : TypeId) 2 false "" "" 32, Field.mk "Size" (23 : TypeId) 3 false "" "" 48, Field.mk "Attributes" (24 : TypeId) 6 false "" "" 72]) 7 96 (Value.agg #[Value.string (ByteArray.mk #[]), Value.string (ByteArray.mk #[]), Value.string (ByteArray.mk #[]), Value.int IntKind.i64 0, Value.int IntKind.i64 0, Value.int IntKind.i64 0, Value.slice none 0 0]) true)) (.str (PR.id p) :: .str (PR.code p) :: .str (PR.brand p) :: .int .i64 (PR.d p) :: .int .i64 (PR.c p) :: .int .i64 (PR.q p) :: .view 2 (PR.na p) (atRow (PR.nm p) (PR.vl p)) :: List.append [] (List.flatten (List.replicate (nat_lit 0) [.str ([]), .str ([]), .str ([]), .int .i64 0, .int .i64 0, .int .i64 0, .nil]))))) false)] [(0, .cells [.view 1 0 (intRow fun (x : Nat) => (0 : Int)), .int .i64 (CatS.a i')] 31), (1, .row 26 7 (CatS.c i') (pdRow (CatS.g i')) false)]) ∧ P i') ((∀ (i_1 : Nat), i_1 < CatS.c i → true = true) ∧ ∃ (O' : List (Nat × AObj)), RowsEq [(0, .row 26 7 (CatS.c i) (pdRow (CatS.g i)) false)] O' ∧ R (.exit 0) (St.mk [(4, .own 0 (CatS.c i))] O' 1 []))) := by kernel_rfl
theorem nf_pc (m : Nat) (v : Nat → Int) (R : AV → List (Nat × AObj) → Prop) : wpFn te [(14, .rel R_catalog), (15, .det S_next), (16, .det S_id), (6, .rel R_spoiledV), (13, .det S_vcat), (20, .det S_vcat), (10, .det S_awake)] [(11, L_pc)] 0 Tryd.f5 [.view 1 m (intRow v)] [] R = (31 = 31 ∧ 1 = 1 ∧ intRow v = intRow (vInt (intRow v)) ∧ ((0 : Int) ≤ (0 : Int) ∧ (0 : Int) ≤ (4611686018427380000 : Int)) ∧ ((0 : Int) ≤ (0 : Int) ∧ (0 : Int) ≤ (100000 : Int)) ∧ ((0 : Int) ≤ (6 : Int) ∧ (6 : Int) ≤ (90 : Int)) ∧ ∀ (c : Nat) (g : Nat → PR) (a' : Int), c ≤ Int.toNat (6 : Int) → a' = (0 : Int) + (1 : Int) + (5 : Int) * (↑c : Int) → (∀ (j : Nat), j < c → PR.Short (g j)) → (∀ (i : Nat), i < c → true = true) ∧ condP (decide ((0 : Int) < (↑c : Int))) ((31 = 31 ∧ 1 = 1 ∧ intRow v = intRow (vInt (intRow v)) ∧ ((1 : Int) ≤ (↑c : Int) ∧ (↑c : Int) ≤ (1000000 : Int)) ∧ (0 : Int) ≤ a' ∧ a' ≤ (4611686018427387904 : Int)) ∧ (31 = 31 ∧ 1 = 1 ∧ intRow v = intRow (vInt (intRow v)) ∧ ((1 : Int) ≤ (5 : Int) ∧ (5 : Int) ≤ (1000000 : Int)) ∧ (0 : Int) ≤ a' + (1 : Int) ∧ a' + (1 : Int) ≤ (4611686018427387904 : Int)) ∧ condP (decide (nextV m (vInt (intRow v)) (a' + (1 : Int)) (5 : Int) = (0 : Int))) (31 = 31 ∧ 1 = 1 ∧ intRow v = intRow (vInt (intRow v)) ∧ ((0 : Int) ≤ a' + (1 : Int) + (1 : Int) ∧ a' + (1 : Int) + (1 : Int) ≤ (4611686018427380000 : Int)) ∧ ∀ (p : PR) (a'_1 : Int), PR.Short p → ((0 : Int) ≤ nextV m (vInt (intRow v)) a' (↑c : Int) ∧ nextV m (vInt (intRow v)) a' (↑c : Int) < (↑c : Int)) ∧ (List.length [AV.str (PR.id p), .str (PR.code p), .str (PR.brand p), .int .i64 (PR.d p), .int .i64 (PR.c p), .int .i64 (PR.q p), .view 2 (PR.na p) (atRow (PR.nm p) (PR.vl p))] = 7 ∧ Int.toNat (nextV m (vInt (intRow v)) a' (↑c : Int)) < c ∧ 7 = 7) ∧ ∃ (n : Nat), ∃ (g_1 : Nat → PR), (TEq [(4, .own 0 c), (41, .int .i64 0)] [(4, .own 0 n), (41, .int .i64 (↑0 : Int))] ∧ RowsEq [(0, .row 26 7 c (fun (k : Nat) => if k = Int.toNat (nextV m (vInt (intRow v)) a' (↑c : Int)) then [.str (PR.id p), .str (PR.code p), .str (PR.brand p), .int .i64 (PR.d p), .int .i64 (PR.c p), .int .i64 (PR.q p), .view 2 (PR.na p) (atRow (PR.nm p) (PR.vl p))] else pdRow g k) false)] [(0, .row 26 7 n (pdRow g_1) false)]) ∧ n ≤ 1000 ∧ (∀ (i : Nat), i < n → PR.Short (g_1 i)) ∧ (∀ (i : Nat), i < n → true = true) ∧ (26 = 26 ∧ false = false ∧ n = n ∧ n ≤ 1000 ∧ pdRow g_1 = pdRow (prOf (pdRow g_1)) ∧ ∀ (i : Nat), i < n → PR.Short (prOf (pdRow g_1) i)) ∧ (∀ (i : Nat), i < n → true = true) ∧ (∀ (i : Nat), i < n → true = true) ∧ (26 = 26 ∧ false = false ∧ n = n ∧ n ≤ 1000 ∧ pdRow g_1 = pdRow (prOf (pdRow g_1)) ∧ ∀ (i : Nat), i < n → PR.Short (prOf (pdRow g_1) i)) ∧ (∀ (i : Nat), i < n → true = true) ∧ condP (decide (catF (prOf (pdRow g_1)) n = catF (prOf (pdRow g_1)) n)) (True ∧ R (.bool true) []) (R (.bool false) [])) (condP (decide (nextV m (vInt (intRow v)) (a' + (1 : Int)) (5 : Int) = (1 : Int))) ((31 = 31 ∧ 1 = 1 ∧ intRow v = intRow (vInt (intRow v)) ∧ ((1 : Int) ≤ (6 : Int) ∧ (6 : Int) ≤ (1000000 : Int)) ∧ (0 : Int) ≤ a' + (1 : Int) + (1 : Int) ∧ a' + (1 : Int) + (1 : Int) ≤ (4611686018427387904 : Int)) ∧ True ∧ ((0 : Int) ≤ nextV m (vInt (intRow v)) a' (↑c : Int) ∧ nextV m (vInt (intRow v)) a' (↑c : Int) < (↑c : Int)) ∧ (List.length [AV.str (idF (nextV m (vInt (intRow v)) (a' + (1 : Int) + (1 : Int)) (6 : Int)))] = 1 ∧ Int.toNat (nextV m (vInt (intRow v)) a' (↑c : Int)) < c ∧ 7 = 7) ∧ ∃ (n : Nat), ∃ (g_1 : Nat → PR), (TEq [(4, .own 0 c), (41, .int .i64 0)] [(4, .own 0 n), (41, .int .i64 (↑0 : Int))] ∧ RowsEq [(0, .row 26 7 c (fun (k : Nat) => if k = Int.toNat (nextV m (vInt (intRow v)) a' (↑c : Int)) then [.str (idF (nextV m (vInt (intRow v)) (a' + (1 : Int) + (1 : Int)) (6 : Int))), .str (PR.code (g (Int.toNat (nextV m (vInt (intRow v)) a' (↑c : Int))))), .str (PR.brand (g (Int.toNat (nextV m (vInt (intRow v)) a' (↑c : Int))))), .int .i64 (PR.d (g (Int.toNat (nextV m (vInt (intRow v)) a' (↑c : Int))))), .int .i64 (PR.c (g (Int.toNat (nextV m (vInt (intRow v)) a' (↑c : Int))))), .int .i64 (PR.q (g (Int.toNat (nextV m (vInt (intRow v)) a' (↑c : Int))))), .view 2 (PR.na (g (Int.toNat (nextV m (vInt (intRow v)) a' (↑c : Int))))) (atRow (PR.nm (g (Int.toNat (nextV m (vInt (intRow v)) a' (↑c : Int))))) (PR.vl (g (Int.toNat (nextV m (vInt (intRow v)) a' (↑c : Int))))))] else pdRow g k) false)] [(0, .row 26 7 n (pdRow g_1) false)]) ∧ n ≤ 1000 ∧ (∀ (i : Nat), i < n → PR.Short (g_1 i)) ∧ (∀ (i : Nat), i < n → true = true) ∧ (26 = 26 ∧ false = false ∧ n = n ∧ n ≤ 1000 ∧ pdRow g_1 = pdRow (prOf (pdRow g_1)) ∧ ∀ (i : Nat), i < n → PR.Short (prOf (pdRow g_1) i)) ∧ (∀ (i : Nat), i < n → true = true) ∧ (∀ (i : Nat), i < n → true = true) ∧ (26 = 26 ∧ false = false ∧ n = n ∧ n ≤ 1000 ∧ pdRow g_1 = pdRow (prOf (pdRow g_1)) ∧ ∀ (i : Nat), i < n → PR.Short (prOf (pdRow g_1) i)) ∧ (∀ (i : Nat), i < n → true = true) ∧ condP (decide (catF (prOf (pdRow g_1)) n = catF (prOf (pdRow g_1)) n)) (True ∧ R (.bool true) []) (R (.bool false) [])) (∃ (n : Nat), ∃ (g_1 : Nat → PR), (TEq [(4, .own 0 c), (41, .int .i64 0)] [(4, .own 0 n), (41, .int .i64 (↑0 : Int))] ∧ RowsEq [(0, .row 26 7 c (pdRow g) false)] [(0, .row 26 7 n (pdRow g_1) false)]) ∧ n ≤ 1000 ∧ (∀ (i : Nat), i < n → PR.Short (g_1 i)) ∧ (∀ (i : Nat), i < n → true = true) ∧ (26 = 26 ∧ false = false ∧ n = n ∧ n ≤ 1000 ∧ pdRow g_1 = pdRow (prOf (pdRow g_1)) ∧ ∀ (i : Nat), i < n → PR.Short (prOf (pdRow g_1) i)) ∧ (∀ (i : Nat), i < n → true = true) ∧ (∀ (i : Nat), i < n → true = true) ∧ (26 = 26 ∧ false = false ∧ n = n ∧ n ≤ 1000 ∧ pdRow g_1 = pdRow (prOf (pdRow g_1)) ∧ ∀ (i : Nat), i < n → PR.Short (prOf (pdRow g_1) i)) ∧ (∀ (i : Nat), i < n → true = true) ∧ condP (decide (catF (prOf (pdRow g_1)) n = catF (prOf (pdRow g_1)) n)) (True ∧ R (.bool true) []) (R (.bool false) [])))) (∃ (n : Nat), ∃ (g_1 : Nat → PR), (TEq [(4, .own 0 c), (41, .int .i64 0)] [(4, .own 0 n), (41, .int .i64 (↑0 : Int))] ∧ RowsEq [(0, .row 26 7 c (pdRow g) false)] [(0, .row 26 7 n (pdRow g_1) false)]) ∧ n ≤ 1000 ∧ (∀ (i : Nat), i < n → PR.Short (g_1 i)) ∧ (∀ (i : Nat), i < n → true = true) ∧ (26 = 26 ∧ false = false ∧ n = n ∧ n ≤ 1000 ∧ pdRow g_1 = pdRow (prOf (pdRow g_1)) ∧ ∀ (i : Nat), i < n → PR.Short (prOf (pdRow g_1) i)) ∧ (∀ (i : Nat), i < n → true = true) ∧ (∀ (i : Nat), i < n → true = true) ∧ (26 = 26 ∧ false = false ∧ n = n ∧ n ≤ 1000 ∧ pdRow g_1 = pdRow (prOf (pdRow g_1)) ∧ ∀ (i : Nat), i < n → PR.Short (prOf (pdRow g_1) i)) ∧ (∀ (i : Nat), i < n → true = true) ∧ condP (decide (catF (prOf (pdRow g_1)) n = catF (prOf (pdRow g_1)) n)) (True ∧ R (.bool true) []) (R (.bool false) []))) := by kernel_rfl
theorem nf_pc_round (n : Nat) (g : Nat → PR) (k : Nat) (P : Nat → Prop) (R : Exit → St → Prop) : roundP ⟨te, [(16, .det S_id), (17, .det S_find), (18, .det S_find), (19, .det S_same)], [], 0, 76, 0⟩ (loopB Tryd.f5 11) [4, 41] [4] [2] (S_pc n g) P R (S_pc n g k) = (condP (decide ((↑k : Int) < (7 : Int))) (True ∧ (∀ (i : Nat), i < n → true = true) ∧ (26 = 26 ∧ false = false ∧ n = n ∧ n ≤ 1000 ∧ pdRow g = pdRow (prOf (pdRow g)) ∧ ∀ (i : Nat), i < n → PR.Short (prOf (pdRow g) i)) ∧ (∀ (i : Nat), i < n → true = true) ∧ True ∧ (∀ (i : Nat), i < n → true = true) ∧ (26 = 26 ∧ false = false ∧ n = n ∧ n ≤ 1000 ∧ pdRow g = pdRow (prOf (pdRow g)) ∧ ∀ (i : Nat), i < n → PR.Short (prOf (pdRow g) i)) ∧ (∀ (i : Nat), i < n → true = true) ∧ condP (!decide (decide (firstId (prOf (pdRow g)) (idF (↑k : Int)) n < n) = decide (firstId (prOf (pdRow g)) (idF (↑k : Int)) n < n))) (R .ret (St.mk [(2, .bool false)] [] 0 [])) ((PR.id (fnd (prOf (pdRow g)) (idF (↑k : Int)) n) = PR.id (fnd (prOf (pdRow g)) (idF (↑k : Int)) n) ∧ PR.code (fnd (prOf (pdRow g)) (idF (↑k : Int)) n) = PR.code (fnd (prOf (pdRow g)) (idF (↑k : Int)) n) ∧ PR.brand (fnd (prOf (pdRow g)) (idF (↑k : Int)) n) = PR.brand (fnd (prOf (pdRow g)) (idF (↑k : Int)) n) ∧ PR.d (fnd (prOf (pdRow g)) (idF (↑k : Int)) n) = PR.d (fnd (prOf (pdRow g)) (idF (↑k : Int)) n) ∧ PR.c (fnd (prOf (pdRow g)) (idF (↑k : Int)) n) = PR.c (fnd (prOf (pdRow g)) (idF (↑k : Int)) n) ∧ PR.q (fnd (prOf (pdRow g)) (idF (↑k : Int)) n) = PR.q (fnd (prOf (pdRow g)) (idF (↑k : Int)) n) ∧ PR.na (fnd (prOf (pdRow g)) (idF (↑k : Int)) n) = PR.na (fnd (prOf (pdRow g)) (idF (↑k : Int)) n) ∧ atRow (PR.nm (fnd (prOf (pdRow g)) (idF (↑k : Int)) n)) (PR.vl (fnd (prOf (pdRow g)) (idF (↑k : Int)) n)) = atRow (PR.nm (fnd (prOf (pdRow g)) (idF (↑k : Int)) n)) (PR.vl (fnd (prOf (pdRow g)) (idF (↑k : Int)) n)) ∧ PR.na (fnd (prOf (pdRow g)) (idF (↑k : Int)) n) ≤ 1000 ∧ atRow (PR.nm (fnd (prOf (pdRow g)) (idF (↑k : Int)) n)) (PR.vl (fnd (prOf (pdRow g)) (idF (↑k : Int)) n)) = atRow (nmOf (atRow (PR.nm (fnd (prOf (pdRow g)) (idF (↑k : Int)) n)) (PR.vl (fnd (prOf (pdRow g)) (idF (↑k : Int)) n)))) (vlOf (atRow (PR.nm (fnd (prOf (pdRow g)) (idF (↑k : Int)) n)) (PR.vl (fnd (prOf (pdRow g)) (idF (↑k : Int)) n))))) ∧ inR .i64 ((↑k : Int) + (1 : Int)) ∧ ∃ (i' : Nat), (TEq [(4, .own 0 n), (41, .int .i64 ((↑k : Int) + (1 : Int)))] [(4, .own 0 n), (41, .int .i64 (↑i' : Int))] ∧ RowsEq [(0, .row 26 7 n (pdRow g) false)] [(0, .row 26 7 n (pdRow g) false)]) ∧ P i')) ((∀ (i : Nat), i < n → true = true) ∧ ∃ (O' : List (Nat × AObj)), RowsEq [(0, .row 26 7 n (pdRow g) false)] O' ∧ R (.exit 1) (St.mk [(4, .own 0 n)] O' 1 []))) := by kernel_rfl

theorem catE_zero {g : Nat → PR} : ∀ n, n ≤ 202 → (∀ j, j < n → (g j).id = idF j ∧ errOf (g j) = 0) → catE g n = 0
  | 0, _, _ => rfl
  | n + 1, hn, h => by
    have ih := catE_zero n (by omega) fun j hj => h j (by omega)
    have hl := h n (by omega)
    rw [catE, ih, hl.2]
    cases n with
    | zero => rfl
    | succ m =>
      have h1 : (g (m + 1 - 1)).id = idF (m : Nat) := (h m (by omega)).1
      rw [h1, hl.1, ids_up m (by omega)]
      rfl

theorem pm_loop (hP : C.P = Tryd.prog) (N : Int) : LoopOK C 0 41 (loopC Tryd.f4 4) (L_pm N) := by
  rintro st Q ⟨h0, hN, hQ⟩
  refine AWP.ownNil 4 26 7 (AWP.nilVP 3 0 1 (intRow fun _ => 0) ?_)
  refine LoopOK.mk (prg hP) [(12, .rel R_itemV)] 0 (.cons (itemV_ok hP) .nil) [3, 4, 11, 12] [4] [] (S_pm N) (fun i => (i.c : Int) ≤ N ∧ i.a = 5 * i.c ∧ ∀ j, j < i.c → (i.g j).Short ∧ (i.g j).id = idF j ∧ errOf (i.g j) = 0) (fun i => N.toNat - i.c) ⟨0, fun _ => default, 0⟩
    ⟨hN.1, by show (0 : Int) = 5 * ((0 : Nat) : Int); omega, fun j hj => absurd hj (Nat.not_lt_zero j)⟩ h0 (fun i hi => ?_) (fun i => ⟨fun _ _ => rfl, trivial⟩)
  obtain ⟨h1, h2, h3⟩ := hi
  rw [nf_pm_round]
  refine condP_dec (fun q => ?_) (fun q => ⟨fun _ _ => rfl, _, rowsEqR _, hQ i (by omega) h3⟩)
  refine ⟨rfl, rfl, rfl, ⟨by omega, by omega⟩, fun p a' hp ha' hid hval => ⟨⟨by omega, rfl, by omega⟩, ⟨⟨Nat.le_refl _, rfl⟩, Nat.le_refl _, rfl, rfl, rfl, by omega, ?_⟩, by simp only [inR]; omega, ⟨i.c + 1, PR.put i.g i.c p, a'⟩, ⟨rfl, rfl, ⟨rfl, rfl, rfl, rfl, rfl, fun j hj => ?_⟩, trivial⟩, ⟨?_, ?_, fun j hj => ?_⟩, ?_⟩⟩
  · show (i.c + 1) * 96 ≤ _
    omega
  · exact pd_ap i.g i.c p _ rfl j hj
  · show ((i.c + 1 : Nat) : Int) ≤ N
    omega
  · show a' = 5 * ((i.c + 1 : Nat) : Int)
    omega
  · show (PR.put i.g i.c p j).Short ∧ (PR.put i.g i.c p j).id = idF j ∧ errOf (PR.put i.g i.c p j) = 0
    unfold PR.put
    have hj : j < i.c + 1 := hj
    by_cases h : j < i.c
    · rw [decide_eq_true h]; exact h3 j h
    · have : j = i.c := by omega
      rw [decide_eq_false h, this]; exact ⟨hp, hid, hval⟩
  · show N.toNat - (i.c + 1) < N.toNat - i.c
    omega

/-- The law of the greatest catalog answers 'true' at every number. -/
theorem pm_ok (hP : C.P = Tryd.prog) (hL : ∀ w, C.laid w → LaidW w) (n : Int) : ADet C 4 [.int .i64 n] [] (.bool true) [] := by
  refine SpecOK.wpL (prg hP) [(11, .det S_fold), (13, .det S_vcat), (10, .det S_awake)] [(4, L_pm (199 + foldV n 3))] 0 (.cons (fold_ok hP) (.cons (vc_ok hP hL) (.cons (awake_ok hP) .nil))) (hP ▸ Tryd.func4) rfl rfl rfl [(loopC Tryd.f4 4, L_pm (199 + foldV n 3))] (by kernel_rfl) ⟨pm_loop hP _, trivial⟩ ?_
  rw [nf_pm]
  have r := foldV_range (show (1 : Int) ≤ 3 by omega) n
  refine ⟨⟨by omega, by omega⟩, by simp only [inR]; omega, ⟨rfl, rfl, ⟨rfl, rfl, rfl, rfl, rfl, fun i hi => absurd hi (Nat.not_lt_zero i)⟩, trivial⟩, ⟨by omega, by omega⟩, fun i hc hs => ⟨fun _ _ => rfl, ⟨rfl, rfl, rfl, by omega, rfl, fun j hj => (hs j hj).1⟩, fun _ _ => rfl, ?_⟩⟩
  have he : catE i.g i.c = 0 := catE_zero i.c (by omega) fun j hj => (hs j hj).2
  have hg : prOf (pdRow i.g) = i.g := rfl
  rw [hg]
  by_cases h : 200 < i.c
  · have hF : catF i.g i.c = 95 := by unfold catF; rw [decide_eq_true h]; rfl
    rw [hF]
    exact condP_dec (fun _ => condP_dec (fun q => absurd q (by decide)) (fun _ => condP_dec (fun _ => ⟨trivial, rfl, rfl⟩) (fun q => absurd rfl q))) (fun q => absurd (by rw [decide_eq_true (show (200 : Int) < (i.c : Int) by omega)]; rfl) q)
  · have hF : catF i.g i.c = 0 := by unfold catF; rw [decide_eq_false h, he]; rfl
    rw [hF]
    exact condP_dec (fun _ => condP_dec (fun _ => ⟨trivial, rfl, rfl⟩) (fun q => absurd rfl q)) (fun q => absurd (by rw [decide_eq_false (show ¬ (200 : Int) < (i.c : Int) by omega)]; rfl) q)

theorem fnd_na {g : Nat → PR} {n : Nat} (h : ∀ i, i < n → (g i).Short) (s : List UInt8) : (fnd g s n).na ≤ 1000 := by
  unfold fnd
  by_cases q : firstId g s n < n
  · rw [decide_eq_true q]
    have := (h _ q).na
    show (g (firstId g s n)).na ≤ 1000
    omega
  · rw [decide_eq_false q]; exact Nat.zero_le _

theorem pc_loop (hP : C.P = Tryd.prog) : LoopOK C 0 76 (loopC Tryd.f5 11) L_pc := by
  rintro st Q ⟨n, g, h0, hn, hs, hQ⟩
  refine LoopOK.mk (prg hP) [(16, .det S_id), (17, .det S_find), (18, .det S_find), (19, .det S_same)] 0 (.cons (id_ok hP) (.cons (find_ok hP) (.cons (findR_ok hP) (.cons (same_ok hP) .nil)))) [4, 41] [4] [2] (S_pc n g) (fun k => k ≤ 7) (fun k => 7 - k) 0 (Nat.zero_le _) h0 (fun k hk => ?_) (fun i => ⟨fun _ _ => rfl, trivial⟩)
  rw [nf_pc_round]
  refine condP_dec (fun q => ?_) (fun q => ⟨fun _ _ => rfl, _, rowsEqR _, hQ⟩)
  have hg : prOf (pdRow g) = g := rfl
  have hS : 26 = 26 ∧ false = false ∧ n = n ∧ n ≤ 1000 ∧ pdRow g = pdRow (prOf (pdRow g)) ∧ ∀ i, i < n → (prOf (pdRow g) i).Short := ⟨rfl, rfl, rfl, hn, rfl, hs⟩
  rw [decide_eq_true (rfl : decide (firstId (prOf (pdRow g)) (idF (k : Int)) n < n) = decide (firstId (prOf (pdRow g)) (idF (k : Int)) n < n))]
  exact ⟨trivial, fun _ _ => rfl, hS, fun _ _ => rfl, trivial, fun _ _ => rfl, hS, fun _ _ => rfl, ⟨rfl, rfl, rfl, rfl, rfl, rfl, rfl, rfl, fnd_na hs _, rfl⟩, by simp only [inR]; omega, k + 1, ⟨rfl, rowsEqR _⟩, by omega, by omega⟩

/-- The law of made catalogs answers 'true' at every tape. -/
theorem pc_ok (hP : C.P = Tryd.prog) (hL : ∀ w, C.laid w → LaidW w) (m : Nat) (v : Nat → Int) : ADet C 5 [.view 1 m (intRow v)] [] (.bool true) [] := by
  refine SpecOK.wpL (prg hP) [(14, .rel R_catalog), (15, .det S_next), (16, .det S_id), (6, .rel R_spoiledV), (13, .det S_vcat), (20, .det S_vcat), (10, .det S_awake)] [(11, L_pc)] 0
    (.cons (cat_ok hP) (.cons (next_ok hP) (.cons (id_ok hP) (.cons (spoiledV_ok hP) (.cons (vc_ok hP hL) (.cons (vcr_ok hP) (.cons (awake_ok hP) .nil))))))) (hP ▸ Tryd.func5) rfl rfl rfl [(loopC Tryd.f5 11, L_pc)] (by kernel_rfl) ⟨pc_loop hP, trivial⟩ ?_
  rw [nf_pc]
  have hw : vInt (intRow v) = v := rfl
  rw [hw]
  refine ⟨rfl, rfl, rfl, ⟨by omega, by omega⟩, ⟨by omega, by omega⟩, ⟨by omega, by omega⟩, fun c g a' hc ha' hs => ⟨fun _ _ => rfl, condP_dec (fun q => ?_) (fun q => ⟨c, g, ⟨rfl, rowsEqR _⟩, by omega, hs, fun _ _ => rfl, ⟨rfl, rfl, rfl, by omega, rfl, hs⟩, fun _ _ => rfl, fun _ _ => rfl, ⟨rfl, rfl, rfl, by omega, rfl, hs⟩, fun _ _ => rfl, condP_dec (fun _ => ⟨trivial, rfl, rfl⟩) (fun q => absurd rfl q)⟩)⟩⟩
  have r := nextV_range (show (1 : Int) ≤ (c : Int) by omega) m v a'
  have hset : ∀ p : PR, p.Short → ∀ i, i < c → (if i = (nextV m v a' c).toNat then p else g i).Short := fun p hp i hi => by
    by_cases h : i = (nextV m v a' c).toNat
    · rw [if_pos h]; exact hp
    · rw [if_neg h]; exact hs i hi
  refine ⟨⟨rfl, rfl, rfl, ⟨by omega, by omega⟩, by omega, by omega⟩, ⟨rfl, rfl, rfl, ⟨by omega, by omega⟩, by omega, by omega⟩, condP_dec (fun _ => ⟨rfl, rfl, rfl, ⟨by omega, by omega⟩, fun p a2 hp => ⟨⟨by omega, by omega⟩, ⟨rfl, by omega, rfl⟩, c, (fun j => if j = (nextV m v a' c).toNat then p else g j), ⟨rfl, ⟨rfl, rfl, rfl, rfl, rfl, fun j hj => ?_⟩, trivial⟩, by omega, hset p hp, fun _ _ => rfl, ⟨rfl, rfl, rfl, by omega, rfl, hset p hp⟩, fun _ _ => rfl, fun _ _ => rfl, ⟨rfl, rfl, rfl, by omega, rfl, hset p hp⟩, fun _ _ => rfl, condP_dec (fun _ => ⟨trivial, rfl, rfl⟩) (fun q => absurd rfl q)⟩⟩) (fun _ => condP_dec (fun _ => ?_) (fun _ => ⟨c, g, ⟨rfl, rowsEqR _⟩, by omega, hs, fun _ _ => rfl, ⟨rfl, rfl, rfl, by omega, rfl, hs⟩, fun _ _ => rfl, fun _ _ => rfl, ⟨rfl, rfl, rfl, by omega, rfl, hs⟩, fun _ _ => rfl, condP_dec (fun _ => ⟨trivial, rfl, rfl⟩) (fun q => absurd rfl q)⟩))⟩
  · by_cases h : j = (nextV m v a' c).toNat <;> simp [h, pdRow]
  · have hp := hs (nextV m v a' c).toNat (by omega)
    have hp2 : (PR.mk (idF (nextV m v (a' + 1 + 1) 6)) (g (nextV m v a' c).toNat).code (g (nextV m v a' c).toNat).brand (g (nextV m v a' c).toNat).d (g (nextV m v a' c).toNat).c (g (nextV m v a' c).toNat).q (g (nextV m v a' c).toNat).na (g (nextV m v a' c).toNat).nm (g (nextV m v a' c).toNat).vl).Short := ⟨by show (idF _).length ≤ 30; rw [idF_len]; omega, hp.code, hp.brand, hp.na, hp.at_⟩
    refine ⟨⟨rfl, rfl, rfl, ⟨by omega, by omega⟩, by omega, by omega⟩, trivial, ⟨by omega, by omega⟩, ⟨rfl, by omega, rfl⟩, c, (fun j => if j = (nextV m v a' c).toNat then (PR.mk (idF (nextV m v (a' + 1 + 1) 6)) (g (nextV m v a' c).toNat).code (g (nextV m v a' c).toNat).brand (g (nextV m v a' c).toNat).d (g (nextV m v a' c).toNat).c (g (nextV m v a' c).toNat).q (g (nextV m v a' c).toNat).na (g (nextV m v a' c).toNat).nm (g (nextV m v a' c).toNat).vl) else g j), ⟨rfl, ⟨rfl, rfl, rfl, rfl, rfl, fun j hj => ?_⟩, trivial⟩, by omega, hset _ hp2, fun _ _ => rfl, ⟨rfl, rfl, rfl, by omega, rfl, hset _ hp2⟩, fun _ _ => rfl, fun _ _ => rfl, ⟨rfl, rfl, rfl, by omega, rfl, hset _ hp2⟩, fun _ _ => rfl, condP_dec (fun _ => ⟨trivial, rfl, rfl⟩) (fun q => absurd rfl q)⟩
    by_cases h : j = (nextV m v a' c).toNat <;> simp [h, pdRow]
end Go.Eng
/- The row of ProductCatalogs. -/
namespace Go.Eng
open Go.Proofs Go.RowKit Go.ChangeShapes Go.WideShapes Go.ChangeAt

theorem params_Pc : Tryd.f5.params = #[27] := by kernel_rfl

set_option maxRecDepth 100000 in
theorem lifted_Pc (os : Os) (started : os.Started) (H : Type) (enc : TypeId × Value → H) :
    ReturnsInHanded {} Tryd.checked os 5 .any (fun w args => (Go.Proofs.YtnjaabibmgdeoaaDoor.Rows.productCatalogsSpec.pre enc Tryd.prog Tryd.f5 [] false w args ∧ laidMetH Tryd.prog Go.Proofs.YtnjaabibmgdeoaaDoor.Rows.productCatalogsRow.laid w) ∧ sizedMet enc Tryd.prog Tryd.f5 (OpenSpec.ofChange Go.Proofs.YtnjaabibmgdeoaaDoor.Rows.productCatalogsSpec) false w args)
      (Go.Proofs.YtnjaabibmgdeoaaDoor.Rows.productCatalogsSpec.post enc Tryd.prog Tryd.f5 false true false false) := by
  refine handed_and_shaped (C := Tryd.checked) (X := fun w _ => laidMetH Tryd.prog Go.Proofs.YtnjaabibmgdeoaaDoor.Rows.productCatalogsRow.laid w) (fun _ _ _ hh h => h.of_heap hh) ownK started (by kernel_rfl) Tryd.func5
    (ChangeSpec.witness_at (enc := enc) (C := Tryd.checked) (os := os) (X := fun w _ => laidMetH Tryd.prog Go.Proofs.YtnjaabibmgdeoaaDoor.Rows.productCatalogsRow.laid w) false (laidWorld os) #[.slice none 0 0] 8 rfl (by kernel_rfl) (by kernel_rfl) (by kernel_rfl) (by kernel_rfl) (by kernel_rfl) (laid_met os _)) ?_
  intro W base args ds gs before hval0 hW hL hsh
  have hval : ∀ (j : Nat) t v, Tryd.f5.params[j]? = some t → args[j]? = some v → Value.okWide Tryd.prog W .any base t v := hval0
  have hW' := hW
  obtain ⟨p, q, hA0, hV, rfl, hfz, hnd⟩ := hW
  have hA : DataW.TrodAll enc Tryd.prog W 0 (fun _ => true) true Tryd.f5.params.toList args.toList ds p := hA0
  rw [params_Pc] at hA hval
  obtain ⟨v0, vs0, d0, ds0, p0, q0, hargs, rfl, rfl, h0, r0⟩ := trodAll_cons hA
  obtain ⟨rfl, rfl, rfl⟩ := trodAll_nil r0
  obtain rfl : args = #[v0] := by cases args; simp_all
  obtain ⟨rfl, rfl⟩ := trodVars_none hV
  obtain ⟨a0, len0, cap0, rfl⟩ := okWide_slice undIs (hval 0 27 v0 rfl rfl)
  have k0 := h0
  have lt0 : ∀ x ∈ p0, x.block < W.heap.size := by obtain ⟨m, hm⟩ := k0; exact DataW.trod_lt m _ _ _ hm
  obtain ⟨m0, hm0⟩ := h0
  obtain ⟨A0, n0, c0, w0, e0, V0⟩ := read_ints hm0
  have e0 : [Value.slice a0 len0 cap0] = [Value.slice A0 n0 c0] := e0
  simp only [List.cons.injEq, and_true] at e0
  rw [← e0] at V0
  have lw := laidW_of hL hsh
  refine (ADet.top (C := cx) (pc_ok rfl (fun _ h => h) n0 w0) lw (gsz_le lw) (cargs := [.slice a0 len0 cap0]) rfl (fun j x u hx hu => ?_)).mono fun e W' ⟨he, bel⟩ => ?_
  · match j with
    | 0 => obtain rfl := Option.some.inj hx; obtain rfl := Option.some.inj hu; exact V0
    | j + 1 => simp at hx
  · subst he
    exact ⟨_, rfl, _, _, _, [], _, [], hW', trodAll_mk1 (shut_bool (show Tryd.prog.underlying 4 = some .bool by kernel_rfl) _), (trodAll_cons_mk (Below.trod laidOut (by kernel_rfl) (of_decide_eq_true (by kernel_rfl)) k0 bel lt0) trodAll_mk0), rfl, bel.frame _, fun h => by cases h⟩

set_option maxRecDepth 100000 in
theorem over_Pc : Go.Proofs.YtnjaabibmgdeoaaDoor.Rows.productCatalogsRow.holds Go.Proofs.YtnjaabibmgdeoaaDoor.Tryd.pinned (OpenSpec.ofChange Go.Proofs.YtnjaabibmgdeoaaDoor.Rows.productCatalogsSpec) :=
  OpenClaim.holds_of_wide 5 Tryd.f5 rfl rfl rfl rfl rfl rfl rfl ⟨rfl, rfl, rfl, rfl, rfl⟩ rfl rfl rfl rfl rfl (by kernel_rfl) Tryd.func5 (by kernel_rfl)
    (of_decide_eq_true (by kernel_rfl)) (by unfold Func.isWrapper; rw [if_neg (of_decide_eq_false (by kernel_rfl))]; exact ⟨rfl, rfl⟩)
    (fun os started H enc _ => lifted_Pc os started H enc)
end Go.Eng
/- The tied card of ProductCatalogs: its statement is 'ProductCatalogsCardSaid' of the given cards. -/
namespace Go.Proofs.YtnjaabibmgdeoaaDoor
open Go

theorem card_Pc : Rows.ProductCatalogsCardSaid :=
  Claim7.holds_tied_plain_at .later [] [.data, .data, .data, .data, .sentinel, .sentinel, .pinned] true (true, "4208ae18efe3e3f5a8af8fbb311d91fbcd6a4360918d67f20c71156b1b26093e") true
    Go.Eng.over_Pc (fun _ h => by cases h) (by kernel_rfl) (fun _ h => by cases h) productCatalogs_row_tie rfl ⟨rfl, rfl⟩ (by kernel_rfl) rfl
    (fun f fn hf hfn => by
      obtain rfl : f = 5 := Option.some.inj ((show Tryd.prog.funcNamed "priceoffice/priceofficelaw09.ProductCatalogs" = some 5 by kernel_rfl).symm.trans hf) |>.symm
      obtain rfl : fn = Tryd.f5 := (Option.some.inj (Tryd.func5.symm.trans hfn)).symm
      exact ⟨by kernel_rfl, fun j t ht => by
        rw [Go.Eng.params_Pc] at ht
        have h3 : t = 27 := by
          rcases j with _ | j
          · exact by simpa using ht.symm
          · simp at ht
        rcases h3 with rfl
        · exact (show Tryd.prog.wantsStandIn 27 = false by kernel_rfl)⟩)
    (by kernel_rfl)
end Go.Proofs.YtnjaabibmgdeoaaDoor
