/- Lemmas that the tied card of ProductCatalogs is proved by. -/
import Derived.Test.YtnjaabibmgdeoaaDoorCm
import Derived.Test.YtnjaabibmgdeoaaDoorCo
import Derived.Test.YtnjaabibmgdeoaaDoorCn
import Derived.Test.YtnjaabibmgdeoaaDoorCl
/- A product with one fault. -/
namespace Go.Eng
open Go.Proofs Go.RowKit
variable {C : Ctx}
set_option maxRecDepth 20000
theorem nf_spoiled (n : Nat) (v : Nat → Int) (a : Int) (R : AV → List (Nat × AObj) → Prop) : wpFn te [(12, .rel R_item), (15, .det S_next)] [(18, L_sp)] 0 Tryd.f6 [.ptr 0 0] [.cells [.view 1 n (intRow v), .int .i64 a] 31] R = ((31 = 31 ∧ 1 = 1 ∧ intRow v = intRow (vInt (intRow v)) ∧ ((1 : Int) ≤ (5 : Int) ∧ (5 : Int) ≤ (1000000 : Int)) ∧ (0 : Int) ≤ a ∧ a ≤ (4611686018427387904 : Int)) ∧ 31 = 31 ∧ 1 = 1 ∧ intRow v = intRow (vInt (intRow v)) ∧ ((0 : Int) ≤ a + (1 : Int) ∧ a + (1 : Int) ≤ (4611686018427387000 : Int)) ∧ ∀ (id code brand : List UInt8) (d c q : Int) (nm vl : Nat → List UInt8) (a' : Int), List.length id ≤ 30 → List.length code ≤ 30 → List.length brand ≤ 30 → (∀ (i : Nat), i < 2 → List.length (nm i) ≤ 30 ∧ List.length (vl i) ≤ 30) → a' = a + (1 : Int) + (5 : Int) → id = idF (nextV n (vInt (intRow v)) a (5 : Int)) → valF id code brand d c q 2 nm vl = (0 : Int) → (∀ (i : Nat), i < 2 → true = true) ∧ (31 = 31 ∧ 1 = 1 ∧ intRow v = intRow (vInt (intRow v)) ∧ ((1 : Int) ≤ (9 : Int) ∧ (9 : Int) ≤ (1000000 : Int)) ∧ (0 : Int) ≤ a' ∧ a' ≤ (4611686018427387904 : Int)) ∧ condP (decide (nextV n (vInt (intRow v)) a' (9 : Int) = (0 : Int))) ((6 ≤ 16777216 ∧ 1 = 1 ∧ 6 ≤ 9223372036854775807) ∧ (31 = 31 ∧ 1 = 1 ∧ intRow v = intRow (vInt (intRow v)) ∧ ((1 : Int) ≤ (6 : Int) ∧ (6 : Int) ≤ (1000000 : Int)) ∧ (0 : Int) ≤ a' + (1 : Int) ∧ a' + (1 : Int) ≤ (4611686018427387904 : Int)) ∧ ((0 : Int) ≤ nextV n (vInt (intRow v)) (a' + (1 : Int)) (6 : Int) ∧ nextV n (vInt (intRow v)) (a' + (1 : Int)) (6 : Int) < (↑6 : Int)) ∧ (Int.toNat (nextV n (vInt (intRow v)) (a' + (1 : Int)) (6 : Int)) < 6 ∧ 1 = 1) ∧ (True ∧ True) ∧ (∀ (i : Nat), i < 2 → true = true) ∧ ∃ (O' : List (Nat × AObj)), RowsEq [(0, .cells [.view 1 n (intRow v), .int .i64 (a' + (1 : Int) + (1 : Int))] 31), (1, .row 52 2 2 (atRow nm vl) false)] O' ∧ R (.agg [.str (List.getD [[], [(49 : UInt8), 50, 51, 52, 53, 54, 55], [(49 : UInt8), 48, 48, 48, 48, 48, 48, 49], [(52 : UInt8), 48, 48, 54, 51, 56, 49, 51, 51, 51, 57, 51, 49], [(52 : UInt8), 48, 48, 54, 51, 56, 49, 51, 51, 51, 57, 51, 49, 48], [(49 : UInt8), 48, 48, 48, 48, 48, 48, 120]] (Int.toNat (nextV n (vInt (intRow v)) (a' + (1 : Int)) (6 : Int))) []), .str code, .str brand, .int .i64 d, .int .i64 c, .int .i64 q, .own 1 2]) O') (condP (decide (nextV n (vInt (intRow v)) a' (9 : Int) = (1 : Int))) ((4 ≤ 16777216 ∧ 1 = 1 ∧ 4 ≤ 9223372036854775807) ∧ (31 = 31 ∧ 1 = 1 ∧ intRow v = intRow (vInt (intRow v)) ∧ ((1 : Int) ≤ (4 : Int) ∧ (4 : Int) ≤ (1000000 : Int)) ∧ (0 : Int) ≤ a' + (1 : Int) ∧ a' + (1 : Int) ≤ (4611686018427387904 : Int)) ∧ ((0 : Int) ≤ nextV n (vInt (intRow v)) (a' + (1 : Int)) (4 : Int) ∧ nextV n (vInt (intRow v)) (a' + (1 : Int)) (4 : Int) < (↑4 : Int)) ∧ (Int.toNat (nextV n (vInt (intRow v)) (a' + (1 : Int)) (4 : Int)) < 4 ∧ 1 = 1) ∧ (True ∧ True) ∧ (∀ (i : Nat), i < 2 → true = true) ∧ ∃ (O' : List (Nat × AObj)), RowsEq [(0, .cells [.view 1 n (intRow v), .int .i64 (a' + (1 : Int) + (1 : Int))] 31), (1, .row 52 2 2 (atRow nm vl) false)] O' ∧ R (.agg [.str id, .str (List.getD [[], [(49 : UInt8)], [(48 : UInt8), 49, 46, 48], [(120 : UInt8)]] (Int.toNat (nextV n (vInt (intRow v)) (a' + (1 : Int)) (4 : Int))) []), .str brand, .int .i64 d, .int .i64 c, .int .i64 q, .own 1 2]) O') (condP (decide (nextV n (vInt (intRow v)) a' (9 : Int) = (2 : Int))) (((0 : Int) ≤ (24 : Int) ∧ (24 : Int) ≤ (↑(List.length [(97 : UInt8), 98, 99, 100, 101, 102, 103, 104, 105, 106, 107, 108, 109, 110, 111, 112, 113, 114, 115, 116, 117, 118, 119, 120, 121, 122]) : Int)) ∧ ((0 : Int) ≤ (25 : Int) ∧ (25 : Int) ≤ (↑(List.length [(97 : UInt8), 98, 99, 100, 101, 102, 103, 104, 105, 106, 107, 108, 109, 110, 111, 112, 113, 114, 115, 116, 117, 118, 119, 120, 121, 122]) : Int)) ∧ (8 ≤ 16777216 ∧ 1 = 1 ∧ 8 ≤ 9223372036854775807) ∧ (31 = 31 ∧ 1 = 1 ∧ intRow v = intRow (vInt (intRow v)) ∧ ((1 : Int) ≤ (8 : Int) ∧ (8 : Int) ≤ (1000000 : Int)) ∧ (0 : Int) ≤ a' + (1 : Int) ∧ a' + (1 : Int) ≤ (4611686018427387904 : Int)) ∧ ((0 : Int) ≤ nextV n (vInt (intRow v)) (a' + (1 : Int)) (8 : Int) ∧ nextV n (vInt (intRow v)) (a' + (1 : Int)) (8 : Int) < (↑8 : Int)) ∧ (Int.toNat (nextV n (vInt (intRow v)) (a' + (1 : Int)) (8 : Int)) < 8 ∧ 1 = 1) ∧ (True ∧ True) ∧ (∀ (i : Nat), i < 2 → true = true) ∧ ∃ (O' : List (Nat × AObj)), RowsEq [(0, .cells [.view 1 n (intRow v), .int .i64 (a' + (1 : Int) + (1 : Int))] 31), (1, .row 52 2 2 (atRow nm vl) false)] O' ∧ R (.agg [.str id, .str code, .str (List.getD [[], [(65 : UInt8)], [(45 : UInt8), 97], [(97 : UInt8), 98, 99, 100, 101, 102, 103, 104, 105, 106, 107, 108, 109, 110, 111, 112, 113, 114, 115, 116, 117, 118, 119, 120], [(97 : UInt8), 98, 99, 100, 101, 102, 103, 104, 105, 106, 107, 108, 109, 110, 111, 112, 113, 114, 115, 116, 117, 118, 119, 120, 121], [(97 : UInt8), 32, 98], [(46 : UInt8), 120], [(48 : UInt8), 46, 45]] (Int.toNat (nextV n (vInt (intRow v)) (a' + (1 : Int)) (8 : Int))) []), .int .i64 d, .int .i64 c, .int .i64 q, .own 1 2]) O') (condP (decide (nextV n (vInt (intRow v)) a' (9 : Int) = (3 : Int))) ((12 ≤ 16777216 ∧ 3 = 3 ∧ 4 ≤ 9223372036854775807) ∧ (31 = 31 ∧ 1 = 1 ∧ intRow v = intRow (vInt (intRow v)) ∧ ((1 : Int) ≤ (4 : Int) ∧ (4 : Int) ≤ (1000000 : Int)) ∧ (0 : Int) ≤ a' + (1 : Int) ∧ a' + (1 : Int) ≤ (4611686018427387904 : Int)) ∧ ((0 : Int) ≤ nextV n (vInt (intRow v)) (a' + (1 : Int)) (4 : Int) ∧ nextV n (vInt (intRow v)) (a' + (1 : Int)) (4 : Int) < (↑4 : Int)) ∧ (Int.toNat (nextV n (vInt (intRow v)) (a' + (1 : Int)) (4 : Int)) < 4 ∧ 3 = 3) ∧ (True ∧ True) ∧ (∀ (i : Nat), i < 2 → true = true) ∧ ∃ (O' : List (Nat × AObj)), RowsEq [(0, .cells [.view 1 n (intRow v), .int .i64 (a' + (1 : Int) + (1 : Int))] 31), (1, .row 52 2 2 (atRow nm vl) false)] O' ∧ R (.agg [.str id, .str code, .str brand, .int .i64 (List.getD [(0 : Int), (0 : Int), (0 : Int), (5 : Int), (1 : Int), (1 : Int), (1 : Int), (101 : Int), (1 : Int), (1 : Int), (1 : Int), (0 : Int)] (Int.toNat (nextV n (vInt (intRow v)) (a' + (1 : Int)) (4 : Int)) * TI.sz (TI.mk (TypeDesc.struct #[Field.mk "Dimension" (3 : TypeId) 0 false "" "" 0, Field.mk "Count" (3 : TypeId) 1 false "" "" 8, Field.mk "Amount" (2 : TypeId) 2 false "" "" 16]) 3 24 (Value.agg #[Value.int IntKind.i64 0, Value.int IntKind.i64 0, Value.int IntKind.i64 0]) true)) (0 : Int)), .int .i64 (List.getD [(0 : Int), (0 : Int), (0 : Int), (5 : Int), (1 : Int), (1 : Int), (1 : Int), (101 : Int), (1 : Int), (1 : Int), (1 : Int), (0 : Int)] (Int.toNat (nextV n (vInt (intRow v)) (a' + (1 : Int)) (4 : Int)) * TI.sz (TI.mk (TypeDesc.struct #[Field.mk "Dimension" (3 : TypeId) 0 false "" "" 0, Field.mk "Count" (3 : TypeId) 1 false "" "" 8, Field.mk "Amount" (2 : TypeId) 2 false "" "" 16]) 3 24 (Value.agg #[Value.int IntKind.i64 0, Value.int IntKind.i64 0, Value.int IntKind.i64 0]) true) + 1) (0 : Int)), .int .i64 (List.getD [(0 : Int), (0 : Int), (0 : Int), (5 : Int), (1 : Int), (1 : Int), (1 : Int), (101 : Int), (1 : Int), (1 : Int), (1 : Int), (0 : Int)] (Int.toNat (nextV n (vInt (intRow v)) (a' + (1 : Int)) (4 : Int)) * TI.sz (TI.mk (TypeDesc.struct #[Field.mk "Dimension" (3 : TypeId) 0 false "" "" 0, Field.mk "Count" (3 : TypeId) 1 false "" "" 8, Field.mk "Amount" (2 : TypeId) 2 false "" "" 16]) 3 24 (Value.agg #[Value.int IntKind.i64 0, Value.int IntKind.i64 0, Value.int IntKind.i64 0]) true) + 1 + 1) (0 : Int)), .own 1 2]) O') (condP (decide (nextV n (vInt (intRow v)) a' (9 : Int) = (4 : Int))) ((31 = 31 ∧ 1 = 1 ∧ intRow v = intRow (vInt (intRow v)) ∧ ((1 : Int) ≤ (2 : Int) ∧ (2 : Int) ≤ (1000000 : Int)) ∧ (0 : Int) ≤ a' + (1 : Int) ∧ a' + (1 : Int) ≤ (4611686018427387904 : Int)) ∧ ((0 : Int) ≤ (25 : Int) ∧ (25 : Int) ≤ (↑(List.length [(97 : UInt8), 98, 99, 100, 101, 102, 103, 104, 105, 106, 107, 108, 109, 110, 111, 112, 113, 114, 115, 116, 117, 118, 119, 120, 121, 122]) : Int)) ∧ (5 ≤ 16777216 ∧ 1 = 1 ∧ 5 ≤ 9223372036854775807) ∧ (31 = 31 ∧ 1 = 1 ∧ intRow v = intRow (vInt (intRow v)) ∧ ((1 : Int) ≤ (5 : Int) ∧ (5 : Int) ≤ (1000000 : Int)) ∧ (0 : Int) ≤ a' + (1 : Int) + (1 : Int) ∧ a' + (1 : Int) + (1 : Int) ≤ (4611686018427387904 : Int)) ∧ ((0 : Int) ≤ nextV n (vInt (intRow v)) (a' + (1 : Int) + (1 : Int)) (5 : Int) ∧ nextV n (vInt (intRow v)) (a' + (1 : Int) + (1 : Int)) (5 : Int) < (↑5 : Int)) ∧ (Int.toNat (nextV n (vInt (intRow v)) (a' + (1 : Int) + (1 : Int)) (5 : Int)) < 5 ∧ 1 = 1) ∧ ((0 : Int) ≤ nextV n (vInt (intRow v)) (a' + (1 : Int)) (2 : Int) ∧ nextV n (vInt (intRow v)) (a' + (1 : Int)) (2 : Int) < (↑2 : Int)) ∧ (List.length [AV.str (List.getD [[], [(112 : UInt8), 111, 119, 101, 114], [(99 : UInt8), 111, 108, 111, 117, 114], [(88 : UInt8)], [(97 : UInt8), 98, 99, 100, 101, 102, 103, 104, 105, 106, 107, 108, 109, 110, 111, 112, 113, 114, 115, 116, 117, 118, 119, 120, 121]] (Int.toNat (nextV n (vInt (intRow v)) (a' + (1 : Int) + (1 : Int)) (5 : Int))) [])] = 1 ∧ Int.toNat (nextV n (vInt (intRow v)) (a' + (1 : Int)) (2 : Int)) < 2 ∧ 2 = 2) ∧ (True ∧ True) ∧ (∀ (i : Nat), i < 2 → nrefL ((fun (k : Nat) => if k = Int.toNat (nextV n (vInt (intRow v)) (a' + (1 : Int)) (2 : Int)) then [.str (List.getD [[], [(112 : UInt8), 111, 119, 101, 114], [(99 : UInt8), 111, 108, 111, 117, 114], [(88 : UInt8)], [(97 : UInt8), 98, 99, 100, 101, 102, 103, 104, 105, 106, 107, 108, 109, 110, 111, 112, 113, 114, 115, 116, 117, 118, 119, 120, 121]] (Int.toNat (nextV n (vInt (intRow v)) (a' + (1 : Int) + (1 : Int)) (5 : Int))) []), .str (vl (Int.toNat (nextV n (vInt (intRow v)) (a' + (1 : Int)) (2 : Int))))] else atRow nm vl k) i) = true) ∧ ∃ (O' : List (Nat × AObj)), RowsEq [(0, .cells [.view 1 n (intRow v), .int .i64 (a' + (1 : Int) + (1 : Int) + (1 : Int))] 31), (1, .row 52 2 2 (fun (k : Nat) => if k = Int.toNat (nextV n (vInt (intRow v)) (a' + (1 : Int)) (2 : Int)) then [.str (List.getD [[], [(112 : UInt8), 111, 119, 101, 114], [(99 : UInt8), 111, 108, 111, 117, 114], [(88 : UInt8)], [(97 : UInt8), 98, 99, 100, 101, 102, 103, 104, 105, 106, 107, 108, 109, 110, 111, 112, 113, 114, 115, 116, 117, 118, 119, 120, 121]] (Int.toNat (nextV n (vInt (intRow v)) (a' + (1 : Int) + (1 : Int)) (5 : Int))) []), .str (vl (Int.toNat (nextV n (vInt (intRow v)) (a' + (1 : Int)) (2 : Int))))] else atRow nm vl k) false)] O' ∧ R (.agg [.str id, .str code, .str brand, .int .i64 d, .int .i64 c, .int .i64 q, .own 1 2]) O') (condP (decide (nextV n (vInt (intRow v)) a' (9 : Int) = (5 : Int))) ((31 = 31 ∧ 1 = 1 ∧ intRow v = intRow (vInt (intRow v)) ∧ ((1 : Int) ≤ (2 : Int) ∧ (2 : Int) ≤ (1000000 : Int)) ∧ (0 : Int) ≤ a' + (1 : Int) ∧ a' + (1 : Int) ≤ (4611686018427387904 : Int)) ∧ ((0 : Int) ≤ (25 : Int) ∧ (25 : Int) ≤ (↑(List.length [(97 : UInt8), 98, 99, 100, 101, 102, 103, 104, 105, 106, 107, 108, 109, 110, 111, 112, 113, 114, 115, 116, 117, 118, 119, 120, 121, 122]) : Int)) ∧ ((0 : Int) ≤ (24 : Int) ∧ (24 : Int) ≤ (↑(List.length [(97 : UInt8), 98, 99, 100, 101, 102, 103, 104, 105, 106, 107, 108, 109, 110, 111, 112, 113, 114, 115, 116, 117, 118, 119, 120, 121, 122]) : Int)) ∧ (5 ≤ 16777216 ∧ 1 = 1 ∧ 5 ≤ 9223372036854775807) ∧ (31 = 31 ∧ 1 = 1 ∧ intRow v = intRow (vInt (intRow v)) ∧ ((1 : Int) ≤ (5 : Int) ∧ (5 : Int) ≤ (1000000 : Int)) ∧ (0 : Int) ≤ a' + (1 : Int) + (1 : Int) ∧ a' + (1 : Int) + (1 : Int) ≤ (4611686018427387904 : Int)) ∧ ((0 : Int) ≤ nextV n (vInt (intRow v)) (a' + (1 : Int) + (1 : Int)) (5 : Int) ∧ nextV n (vInt (intRow v)) (a' + (1 : Int) + (1 : Int)) (5 : Int) < (↑5 : Int)) ∧ (Int.toNat (nextV n (vInt (intRow v)) (a' + (1 : Int) + (1 : Int)) (5 : Int)) < 5 ∧ 1 = 1) ∧ ((0 : Int) ≤ nextV n (vInt (intRow v)) (a' + (1 : Int)) (2 : Int) ∧ nextV n (vInt (intRow v)) (a' + (1 : Int)) (2 : Int) < (↑2 : Int)) ∧ (List.length [AV.str (List.getD [[], [(195 : UInt8), 169], [(97 : UInt8), 98, 99, 100, 101, 102, 103, 104, 105, 106, 107, 108, 109, 110, 111, 112, 113, 114, 115, 116, 117, 118, 119, 120, 121], [(97 : UInt8), 98, 99, 100, 101, 102, 103, 104, 105, 106, 107, 108, 109, 110, 111, 112, 113, 114, 115, 116, 117, 118, 119, 120], [(97 : UInt8), 95, 98]] (Int.toNat (nextV n (vInt (intRow v)) (a' + (1 : Int) + (1 : Int)) (5 : Int))) [])] = 1 ∧ Int.toNat (nextV n (vInt (intRow v)) (a' + (1 : Int)) (2 : Int)) < 2 ∧ 2 = 2) ∧ (True ∧ True) ∧ (∀ (i : Nat), i < 2 → nrefL ((fun (k : Nat) => if k = Int.toNat (nextV n (vInt (intRow v)) (a' + (1 : Int)) (2 : Int)) then [.str (nm (Int.toNat (nextV n (vInt (intRow v)) (a' + (1 : Int)) (2 : Int)))), .str (List.getD [[], [(195 : UInt8), 169], [(97 : UInt8), 98, 99, 100, 101, 102, 103, 104, 105, 106, 107, 108, 109, 110, 111, 112, 113, 114, 115, 116, 117, 118, 119, 120, 121], [(97 : UInt8), 98, 99, 100, 101, 102, 103, 104, 105, 106, 107, 108, 109, 110, 111, 112, 113, 114, 115, 116, 117, 118, 119, 120], [(97 : UInt8), 95, 98]] (Int.toNat (nextV n (vInt (intRow v)) (a' + (1 : Int) + (1 : Int)) (5 : Int))) [])] else atRow nm vl k) i) = true) ∧ ∃ (O' : List (Nat × AObj)), RowsEq [(0, .cells [.view 1 n (intRow v), .int .i64 (a' + (1 : Int) + (1 : Int) + (1 : Int))] 31), (1, .row 52 2 2 (fun (k : Nat) => if k = Int.toNat (nextV n (vInt (intRow v)) (a' + (1 : Int)) (2 : Int)) then [.str (nm (Int.toNat (nextV n (vInt (intRow v)) (a' + (1 : Int)) (2 : Int)))), .str (List.getD [[], [(195 : UInt8), 169], [(97 : UInt8), 98, 99, 100, 101, 102, 103, 104, 105, 106, 107, 108, 109, 110, 111, 112, 113, 114, 115, 116, 117, 118, 119, 120, 121], [(97 : UInt8), 98, 99, 100, 101, 102, 103, 104, 105, 106, 107, 108, 109, 110, 111, 112, 113, 114, 115, 116, 117, 118, 119, 120], [(97 : UInt8), 95, 98]] (Int.toNat (nextV n (vInt (intRow v)) (a' + (1 : Int) + (1 : Int)) (5 : Int))) [])] else atRow nm vl k) false)] O' ∧ R (.agg [.str id, .str code, .str brand, .int .i64 d, .int .i64 c, .int .i64 q, .own 1 2]) O') (condP (decide (nextV n (vInt (intRow v)) a' (9 : Int) = (6 : Int))) ((31 = 31 ∧ 1 = 1 ∧ intRow v = intRow (vInt (intRow v)) ∧ ((1 : Int) ≤ (4 : Int) ∧ (4 : Int) ≤ (1000000 : Int)) ∧ (0 : Int) ≤ a' + (1 : Int) ∧ a' + (1 : Int) ≤ (4611686018427387904 : Int)) ∧ inR .i64 ((9 : Int) + nextV n (vInt (intRow v)) (a' + (1 : Int)) (4 : Int)) ∧ ∃ (id_1 : List UInt8), ∃ (code_1 : List UInt8), ∃ (brand_1 : List UInt8), ∃ (d_1 : Int), ∃ (c_1 : Int), ∃ (q_1 : Int), ∃ (nm_1 : Nat → List UInt8), ∃ (vl_1 : Nat → List UInt8), ∃ (n_1 : Nat), ∃ (v_1 : Nat → Int), ∃ (a : Int), ∃ (N : Int), (TEq [(0, .ptr 0 0), (2, .ptr 1 0), (3, .ptr 2 0), (4, .str [(97 : UInt8), 98, 99, 100, 101, 102, 103, 104, 105, 106, 107, 108, 109, 110, 111, 112, 113, 114, 115, 116, 117, 118, 119, 120, 121, 122]), (88, .int .i64 ((9 : Int) + nextV n (vInt (intRow v)) (a' + (1 : Int)) (4 : Int))), (89, .int .i64 0)] [(0, .ptr 0 0), (2, .ptr 1 0), (3, .ptr 2 0), (4, .str [(97 : UInt8), 98, 99, 100, 101, 102, 103, 104, 105, 106, 107, 108, 109, 110, 111, 112, 113, 114, 115, 116, 117, 118, 119, 120, 121, 122]), (88, .int .i64 N), (89, .int .i64 (↑0 : Int))] ∧ RowsEq [(0, .cells [.view 1 n (intRow v), .int .i64 (a' + (1 : Int) + (1 : Int))] 31), (1, .cells [.str [], .str [], .str [], .int .i64 0, .int .i64 0, .int .i64 0, .nil] 26), (2, .cells [.str id, .str code, .str brand, .int .i64 d, .int .i64 c, .int .i64 q, .own 3 2] 26), (3, .row 52 2 2 (atRow nm vl) false)] [(0, .cells [.view 1 n_1 (intRow v_1), .int .i64 a] 31), (1, .cells [.str [], .str [], .str [], .int .i64 0, .int .i64 0, .int .i64 0, .nil] 26), (2, .cells [.str id_1, .str code_1, .str brand_1, .int .i64 d_1, .int .i64 c_1, .int .i64 q_1, .own 3 2] 26), (3, .row 52 2 2 (atRow (nmX nm_1) (vlX vl_1)) false)]) ∧ ((0 : Int) ≤ N ∧ N ≤ (12 : Int)) ∧ (True ∧ True) ∧ (∀ (i : Nat), i < 2 + Int.toNat N → true = true) ∧ ∃ (O' : List (Nat × AObj)), RowsEq [(0, .cells [.view 1 n_1 (intRow v_1), .int .i64 a] 31), (1, .row 52 2 (2 + Int.toNat N) (atRow (nmX nm_1) (vlX vl_1)) false)] O' ∧ R (.agg [.str id_1, .str code_1, .str brand_1, .int .i64 d_1, .int .i64 c_1, .int .i64 q_1, .own 1 (2 + Int.toNat N)]) O') ((True ∧ True) ∧ (∀ (i : Nat), i < 2 → true = true) ∧ ∃ (O' : List (Nat × AObj)), RowsEq [(0, .cells [.view 1 n (intRow v), .int .i64 (a' + (1 : Int))] 31), (1, .row 52 2 2 (atRow nm vl) false)] O' ∧ R (.agg [.str id, .str code, .str brand, .int .i64 d, .int .i64 c, .int .i64 q, .own 1 2]) O')))))))) := by kernel_rfl
theorem nf_sp_round (al id code brand : List UInt8) (d c q : Int) (nm vl : Nat → List UInt8) (n : Nat) (v : Nat → Int) (a N : Int) (k : Nat) (P : Nat → Prop) (R : Exit → St → Prop) : roundP ⟨te, [], [], 1, 105, 0⟩ (loopB Tryd.f6 18) [0, 2, 3, 4, 88, 89] [0, 2, 3] [] (S_sp al id code brand d c q nm vl n (intRow v) a N) P R (S_sp al id code brand d c q nm vl n (intRow v) a N k) = (condP (decide ((↑k : Int) < N)) (inR .i64 ((↑k : Int) + (2 : Int)) ∧ ((0 : Int) ≤ (↑k : Int) ∧ (↑k : Int) ≤ (↑k : Int) + (2 : Int) ∧ (↑k : Int) + (2 : Int) ≤ (↑(List.length al) : Int)) ∧ (2 ≤ 16777216 ∧ 2 = 2 ∧ 1 ≤ 9223372036854775807) ∧ ((1 ≤ 1 ∧ 2 = 2) ∧ 2 + k ≤ 2 + k ∧ 2 = 2 ∧ 52 = 52 ∧ 2 = 2 ∧ 2 + k + 1 ≤ 9223372036854775807 ∧ (2 + k + 1) * TI.bytes (TI.mk (TypeDesc.struct #[Field.mk "Name" (9 : TypeId) 0 false "" "" 0, Field.mk "Value" (9 : TypeId) 1 false "" "" 16]) 2 32 (Value.agg #[Value.string (ByteArray.mk #[]), Value.string (ByteArray.mk #[])]) true) ≤ 140737488355328) ∧ inR .i64 ((↑k : Int) + (1 : Int)) ∧ ∃ (i' : Nat), (TEq [(0, .ptr 0 0), (2, .ptr 1 0), (3, .ptr 2 0), (4, .str al), (88, .int .i64 N), (89, .int .i64 ((↑k : Int) + (1 : Int)))] [(0, .ptr 0 0), (2, .ptr 1 0), (3, .ptr 2 0), (4, .str al), (88, .int .i64 N), (89, .int .i64 (↑i' : Int))] ∧ RowsEq [(0, .cells [.view 1 n (intRow v), .int .i64 a] 31), (1, .cells [.str [], .str [], .str [], .int .i64 0, .int .i64 0, .int .i64 0, .nil] 26), (2, .cells [.str id, .str code, .str brand, .int .i64 d, .int .i64 c, .int .i64 q, .own 3 (2 + k + 1)] 26), (3, .row 52 2 (2 + k + 1) (apF (2 + k) (atRow (nmX nm) (vlX vl)) (chunkA (TI.sz (TI.mk (TypeDesc.struct #[Field.mk "Name" (9 : TypeId) 0 false "" "" 0, Field.mk "Value" (9 : TypeId) 1 false "" "" 16]) 2 32 (Value.agg #[Value.string (ByteArray.mk #[]), Value.string (ByteArray.mk #[])]) true)) (.str (List.drop (Int.toNat (↑k : Int)) (List.take (Int.toNat ((↑k : Int) + (2 : Int))) al)) :: .str [(118 : UInt8)] :: List.append [] (List.flatten (List.replicate (nat_lit 0) [.str ([]), .str ([])]))))) false)] [(0, .cells [.view 1 n (intRow v), .int .i64 a] 31), (1, .cells [.str [], .str [], .str [], .int .i64 0, .int .i64 0, .int .i64 0, .nil] 26), (2, .cells [.str id, .str code, .str brand, .int .i64 d, .int .i64 c, .int .i64 q, .own 3 (2 + i')] 26), (3, .row 52 2 (2 + i') (atRow (nmX nm) (vlX vl)) false)]) ∧ P i') ((∀ (i : Nat), i < 2 + k → true = true) ∧ ∃ (O' : List (Nat × AObj)), RowsEq [(0, .cells [.view 1 n (intRow v), .int .i64 a] 31), (1, .cells [.str [], .str [], .str [], .int .i64 0, .int .i64 0, .int .i64 0, .nil] 26), (2, .cells [.str id, .str code, .str brand, .int .i64 d, .int .i64 c, .int .i64 q, .own 3 (2 + k)] 26), (3, .row 52 2 (2 + k) (atRow (nmX nm) (vlX vl)) false)] O' ∧ R (.exit 1) (St.mk [(0, .ptr 0 0), (2, .ptr 1 0), (3, .ptr 2 0)] O' 4 []))) := by kernel_rfl

theorem sp_loop (hP : C.P = Tryd.prog) : LoopOK C 1 105 (loopC Tryd.f6 18) L_sp := by
  rintro st Q ⟨id, code, brand, d, c, q, nm, vl, n, v, a, N, h0, hN, hQ⟩
  refine LoopOK.mk (prg hP) [] 0 .nil [0, 2, 3, 4, 88, 89] [0, 2, 3] [] (S_sp alpha id code brand d c q nm vl n (intRow v) a N) (fun k => (k : Int) ≤ N) (fun k => N.toNat - k) 0 (by omega) h0 (fun k hk => ?_) (fun i => ⟨fun _ _ => rfl, trivial⟩)
  rw [nf_sp_round]
  have hal : alpha.length = 26 := rfl
  refine condP_dec (fun h1 => ?_) (fun h1 => ⟨fun _ _ => rfl, _, rowsEqR _, ?_⟩)
  · have hrow : ∀ x y : List UInt8, ∀ f : Nat → List AV, f (2 + k) = [.str x, .str y] → ∀ i, i < 2 + k + 1 → apF (2 + k) f (chunkA 2 (.str x :: .str y :: List.append [] (List.flatten (List.replicate (nat_lit 0) [.str ([]), .str ([])])))) i = f i := by
      intro x y f hf i hi
      unfold apF
      split
      · rfl
      · have : i = 2 + k := by omega
        subst this
        rw [Nat.sub_self, hf]; rfl
    refine ⟨by simp only [inR]; omega, ⟨by omega, by omega, by omega⟩, ⟨by omega, rfl, by omega⟩, ⟨⟨by omega, rfl⟩, Nat.le_refl _, rfl, rfl, rfl, by omega, ?_⟩, by simp only [inR]; omega, k + 1, ⟨rfl, rfl, rfl, rfl, ⟨rfl, rfl, rfl, rfl, rfl, fun i hi => ?_⟩, trivial⟩, by omega, by omega⟩
    · show (2 + k + 1) * 32 ≤ _
      omega
    · refine hrow _ _ (atRow (nmX nm) (vlX vl)) ?_ i hi
      unfold atRow nmX vlX
      rw [decide_eq_false (show ¬ 2 + k < 2 by omega), show 2 + k - 2 = k by omega, Int.toNat_natCast, show ((k : Int) + 2).toNat = 2 + k by omega]
      rfl
  · have e : (k : Int) = N := by omega
    have e' : N.toNat = k := by omega
    rw [e'] at hQ
    exact hQ

theorem spoiled_ok (hP : C.P = Tryd.prog) : RSpecOK C 6 R_spoiled := by
  rintro args objs R h
  unfold R_spoiled at h
  split at h
  · rename_i sz n f a t
    obtain ⟨rfl, rfl, hf, ha, hR⟩ := h
    rw [hf] at hR ⊢
    generalize vInt f = v at *
    refine RSpecOK.wpL (prg hP) [(12, .rel R_item), (15, .det S_next)] [(18, L_sp)] 0 (.cons (item_ok hP) (.cons (next_ok hP) .nil)) (hP ▸ Tryd.func6) rfl rfl rfl [(loopC Tryd.f6 18, L_sp)] (by kernel_rfl) ⟨sp_loop hP, trivial⟩ ?_
    rw [nf_spoiled]
    have hw : vInt (intRow v) = v := rfl
    rw [hw]
    refine ⟨⟨rfl, rfl, rfl, ⟨by omega, by omega⟩, by omega, by omega⟩, rfl, rfl, rfl, ⟨by omega, by omega⟩, fun id code brand d c q nm vl a' l1 l2 l3 l4 ha' _ _ => ⟨fun _ _ => rfl, ⟨rfl, rfl, rfl, ⟨by omega, by omega⟩, by omega, by omega⟩, ?_⟩⟩
    have r6 := nextV_range (show (1 : Int) ≤ 6 by omega) n v (a' + 1)
    have r4 := nextV_range (show (1 : Int) ≤ 4 by omega) n v (a' + 1)
    have r8 := nextV_range (show (1 : Int) ≤ 8 by omega) n v (a' + 1)
    have r2 := nextV_range (show (1 : Int) ≤ 2 by omega) n v (a' + 1)
    have r5 := nextV_range (show (1 : Int) ≤ 5 by omega) n v (a' + 1 + 1)
    have fin : ∀ (id code brand : List UInt8) (d c q : Int) (nm vl : Nat → List UInt8) (a'' : Int), id.length ≤ 30 → code.length ≤ 30 → brand.length ≤ 30 → (∀ i, i < 2 → (nm i).length ≤ 30 ∧ (vl i).length ≤ 30) →
        R (.agg [.str id, .str code, .str brand, .int .i64 d, .int .i64 c, .int .i64 q, .own 1 2]) [(0, .cells [.view 1 n (intRow v), .int .i64 a''] 31), (1, .row 52 2 2 (atRow nm vl) false)] := fun id code brand d c q nm vl a'' h1 h2 h3 h4 => hR id code brand d c q 2 nm vl a'' h1 h2 h3 (by omega) h4
    have hal : (([97, 98, 99, 100, 101, 102, 103, 104, 105, 106, 107, 108, 109, 110, 111, 112, 113, 114, 115, 116, 117, 118, 119, 120, 121, 122] : List UInt8).length : Int) = 26 := rfl
    refine condP_dec (fun _ => ?_) (fun _ => condP_dec (fun _ => ?_) (fun _ => condP_dec (fun _ => ?_) (fun _ => condP_dec (fun _ => ?_) (fun _ => condP_dec (fun _ => ?_) (fun _ => condP_dec (fun _ => ?_) (fun _ => condP_dec (fun _ => ?_) (fun _ => ?_)))))))
    · exact ⟨⟨by omega, rfl, by omega⟩, ⟨rfl, rfl, rfl, ⟨by omega, by omega⟩, by omega, by omega⟩, ⟨by omega, by omega⟩, ⟨by omega, rfl⟩, ⟨trivial, trivial⟩, fun _ _ => rfl, _, rowsEqR _, fin _ _ _ _ _ _ nm vl _ (getD_le _ rfl) l2 l3 l4⟩
    · exact ⟨⟨by omega, rfl, by omega⟩, ⟨rfl, rfl, rfl, ⟨by omega, by omega⟩, by omega, by omega⟩, ⟨by omega, by omega⟩, ⟨by omega, rfl⟩, ⟨trivial, trivial⟩, fun _ _ => rfl, _, rowsEqR _, fin _ _ _ _ _ _ nm vl _ l1 (getD_le _ rfl) l3 l4⟩
    · exact ⟨⟨by omega, by omega⟩, ⟨by omega, by omega⟩, ⟨by omega, rfl, by omega⟩, ⟨rfl, rfl, rfl, ⟨by omega, by omega⟩, by omega, by omega⟩, ⟨by omega, by omega⟩, ⟨by omega, rfl⟩, ⟨trivial, trivial⟩, fun _ _ => rfl, _, rowsEqR _, fin _ _ _ _ _ _ nm vl _ l1 l2 (getD_le _ rfl) l4⟩
    · exact ⟨⟨by omega, rfl, by omega⟩, ⟨rfl, rfl, rfl, ⟨by omega, by omega⟩, by omega, by omega⟩, ⟨by omega, by omega⟩, ⟨by omega, rfl⟩, ⟨trivial, trivial⟩, fun _ _ => rfl, _, rowsEqR _, fin _ _ _ _ _ _ nm vl _ l1 l2 l3 l4⟩
    · refine ⟨⟨rfl, rfl, rfl, ⟨by omega, by omega⟩, by omega, by omega⟩, ⟨by omega, by omega⟩, ⟨by omega, rfl, by omega⟩, ⟨rfl, rfl, rfl, ⟨by omega, by omega⟩, by omega, by omega⟩, ⟨by omega, by omega⟩, ⟨by omega, rfl⟩, ⟨by omega, by omega⟩, ⟨rfl, by omega, rfl⟩, ⟨trivial, trivial⟩, fun i hi => ?_, _, ?_, fin _ _ _ _ _ _ (fun j => if j = (nextV n v (a' + 1) 2).toNat then (List.getD [[], [112, 111, 119, 101, 114], [99, 111, 108, 111, 117, 114], [88], [97, 98, 99, 100, 101, 102, 103, 104, 105, 106, 107, 108, 109, 110, 111, 112, 113, 114, 115, 116, 117, 118, 119, 120, 121]] (nextV n v (a' + 1 + 1) 5).toNat []) else nm j) (fun j => if j = (nextV n v (a' + 1) 2).toNat then (vl (nextV n v (a' + 1) 2).toNat) else vl j) (a' + 1 + 1 + 1) l1 l2 l3 ?len⟩
      · dsimp only
        split <;> rfl
      · exact ⟨rfl, ⟨rfl, rfl, rfl, rfl, rfl, fun i hi => row_ite _ _ _ nm vl i⟩, trivial⟩
      · intro i hi
        refine ⟨?_, ?_⟩
        · split
          · exact getD_le _ rfl
          · exact (l4 i hi).1
        · split
          · exact (l4 _ (by omega)).2
          · exact (l4 i hi).2
    · refine ⟨⟨rfl, rfl, rfl, ⟨by omega, by omega⟩, by omega, by omega⟩, ⟨by omega, by omega⟩, ⟨by omega, by omega⟩, ⟨by omega, rfl, by omega⟩, ⟨rfl, rfl, rfl, ⟨by omega, by omega⟩, by omega, by omega⟩, ⟨by omega, by omega⟩, ⟨by omega, rfl⟩, ⟨by omega, by omega⟩, ⟨rfl, by omega, rfl⟩, ⟨trivial, trivial⟩, fun i hi => ?_, _, ?_, fin _ _ _ _ _ _ (fun j => if j = (nextV n v (a' + 1) 2).toNat then (nm (nextV n v (a' + 1) 2).toNat) else nm j) (fun j => if j = (nextV n v (a' + 1) 2).toNat then (List.getD [[], [195, 169], [97, 98, 99, 100, 101, 102, 103, 104, 105, 106, 107, 108, 109, 110, 111, 112, 113, 114, 115, 116, 117, 118, 119, 120, 121], [97, 98, 99, 100, 101, 102, 103, 104, 105, 106, 107, 108, 109, 110, 111, 112, 113, 114, 115, 116, 117, 118, 119, 120], [97, 95, 98]] (nextV n v (a' + 1 + 1) 5).toNat []) else vl j) (a' + 1 + 1 + 1) l1 l2 l3 ?len2⟩
      · dsimp only
        split <;> rfl
      · exact ⟨rfl, ⟨rfl, rfl, rfl, rfl, rfl, fun i hi => row_ite _ _ _ nm vl i⟩, trivial⟩
      · intro i hi
        refine ⟨?_, ?_⟩
        · split
          · exact (l4 _ (by omega)).1
          · exact (l4 i hi).1
        · split
          · exact getD_le _ rfl
          · exact (l4 i hi).2
    · refine ⟨⟨rfl, rfl, rfl, ⟨by omega, by omega⟩, by omega, by omega⟩, by simp only [inR]; omega, id, code, brand, d, c, q, nm, vl, n, v, a' + 1 + 1, 9 + nextV n v (a' + 1) 4, ⟨rfl, rfl, rfl, rfl, ⟨rfl, rfl, rfl, rfl, rfl, fun i hi => ?_⟩, trivial⟩, ⟨by omega, by omega⟩, ⟨trivial, trivial⟩, fun _ _ => rfl, _, rowsEqR _, hR _ _ _ _ _ _ _ _ _ _ l1 l2 l3 (by omega) (fun i hi => ?_)⟩
      · unfold atRow nmX vlX
        rw [decide_eq_true hi]; rfl
      · unfold nmX vlX
        by_cases h2 : i < 2
        · rw [decide_eq_true h2]; exact l4 i h2
        · rw [decide_eq_false h2]
          have hal' : alpha.length = 26 := rfl
          refine ⟨?_, by simp⟩
          show ((alpha.take i).drop (i - 2)).length ≤ 30
          rw [List.length_drop, List.length_take]
          omega
    · exact ⟨⟨trivial, trivial⟩, fun _ _ => rfl, _, rowsEqR _, fin _ _ _ _ _ _ nm vl _ l1 l2 l3 l4⟩
  · exact h.elim

end Go.Eng
/- Products from a tape, with their attributes told as plain data; catalogs. -/
namespace Go.Eng
open Go.Proofs Go.RowKit
variable {C : Ctx}
set_option maxRecDepth 20000
theorem nf_cat (n : Nat) (v : Nat → Int) (a k most : Int) (R : AV → List (Nat × AObj) → Prop) : wpFn te [(12, .rel R_itemV), (15, .det S_next)] [(3, L_cat n v (a + 1) k (nextV n v a (most + 1)))] 0 Tryd.f14 [.ptr 0 0, .int .i64 k, .int .i64 most] [.cells [.view 1 n (intRow v), .int .i64 a] 31] R = (inR .i64 (most + (1 : Int)) ∧ (31 = 31 ∧ 1 = 1 ∧ intRow v = intRow (vInt (intRow v)) ∧ ((1 : Int) ≤ most + (1 : Int) ∧ most + (1 : Int) ≤ (1000000 : Int)) ∧ (0 : Int) ≤ a ∧ a ≤ (4611686018427387904 : Int)) ∧ (TEq [(0, .ptr 0 0), (1, .int .i64 k), (7, .own 1 0), (12, .int .i64 (nextV n (vInt (intRow v)) a (most + (1 : Int)))), (13, .int .i64 0)] [(0, .ptr 0 0), (1, .int .i64 k), (7, .own 1 0), (12, .int .i64 (nextV n v a (most + (1 : Int)))), (13, .int .i64 (↑(CatS.c (CatS.mk 0 (fun (x : Nat) => default) (a + (1 : Int)))) : Int))] ∧ RowsEq [(0, .cells [.view 1 n (intRow v), .int .i64 (a + (1 : Int))] 31), (1, .row 26 7 0 (fun (x : Nat) => []) false)] [(0, .cells [.view 1 n (intRow v), .int .i64 (CatS.a (CatS.mk 0 (fun (x : Nat) => default) (a + (1 : Int))))] 31), (1, .row 26 7 0 (pdRow (CatS.g (CatS.mk 0 (fun (x : Nat) => default) (a + (1 : Int))))) false)]) ∧ ((0 : Int) ≤ nextV n v a (most + (1 : Int)) ∧ nextV n v a (most + (1 : Int)) ≤ (100 : Int)) ∧ ((0 : Int) ≤ k ∧ k ≤ (100000 : Int)) ∧ ((0 : Int) ≤ a + (1 : Int) ∧ a + (1 : Int) ≤ (4611686018427386000 : Int)) ∧ ∀ (i : CatS), CatS.c i = Int.toNat (nextV n v a (most + (1 : Int))) → CatS.a i = a + (1 : Int) + (5 : Int) * (↑(CatS.c i) : Int) → (∀ (j : Nat), j < CatS.c i → PR.Short (CatS.g i j)) → (∀ (i_1 : Nat), i_1 < CatS.c i → true = true) ∧ ∃ (O' : List (Nat × AObj)), RowsEq [(0, .cells [.view 1 n (intRow v), .int .i64 (CatS.a i)] 31), (1, .row 26 7 (CatS.c i) (pdRow (CatS.g i)) false)] O' ∧ R (.own 1 (CatS.c i)) O') := by kernel_rfl
theorem nf_cat_round (n : Nat) (v : Nat → Int) (k N : Int) (i : CatS) (P : CatS → Prop) (R : Exit → St → Prop) : roundP ⟨te, [(12, .rel R_itemV)], [], 1, 26, 0⟩ (loopB Tryd.f14 3) [0, 1, 7, 12, 13] [7] [] (S_cat n v k N) P R (S_cat n v k N i) = (condP (decide ((↑(CatS.c i) : Int) < N)) (inR .i64 (k + (↑(CatS.c i) : Int)) ∧ 31 = 31 ∧ 1 = 1 ∧ intRow v = intRow (vInt (intRow v)) ∧ ((0 : Int) ≤ CatS.a i ∧ CatS.a i ≤ (4611686018427387000 : Int)) ∧ ∀ (p : PR) (a' : Int), PR.Short p → a' = CatS.a i + (5 : Int) → PR.id p = idF (k + (↑(CatS.c i) : Int)) → valF (PR.id p) (PR.code p) (PR.brand p) (PR.d p) (PR.c p) (PR.q p) (PR.na p) (PR.nm p) (PR.vl p) = (0 : Int) → (7 ≤ 16777216 ∧ 7 = 7 ∧ 1 ≤ 9223372036854775807) ∧ ((1 ≤ 1 ∧ 7 = 7) ∧ CatS.c i ≤ CatS.c i ∧ 7 = 7 ∧ 26 = 26 ∧ 7 = 7 ∧ CatS.c i + 1 ≤ 9223372036854775807 ∧ (CatS.c i + 1) * TI.bytes (TI.mk (TypeDesc.struct #[Field.mk "ID" (9 : TypeId) 0 false "" "" 0, Field.mk "Code" (9 : TypeId) 1 false "" "" 16, Field.mk "Brand" (9 : TypeId) 2 false "" "" 32, Field.mk "Size" (23 : TypeId) 3 false "" "" 48, Field.mk "Attributes" (24 : TypeId) 6 false "" "" 72]) 7 96 (Value.agg #[Value.string (ByteArray.mk #[]), Value.string (ByteArray.mk #[]), Value.string (ByteArray.mk #[]), Value.int IntKind.i64 0, Value.int IntKind.i64 0, Value.int IntKind.i64 0, Value.slice none 0 0]) true) ≤ 140737488355328) ∧ inR .i64 ((↑(CatS.c i) : Int) + (1 : Int)) ∧ ∃ (i' : CatS), (TEq [(0, .ptr 0 0), (1, .int .i64 k), (7, .own 1 (CatS.c i + 1)), (12, .int .i64 N), (13, .int .i64 ((↑(CatS.c i) : Int) + (1 : Int)))] [(0, .ptr 0 0), (1, .int .i64 k), (7, .own 1 (CatS.c i')), (12, .int .i64 N), (13, .int .i64 (↑(CatS.c i') : Int))] ∧ RowsEq [(0, .cells [.view 1 n (intRow v), .int .i64 a'] 31), (1, .row 26 7 (CatS.c i + 1) (apF (CatS.c i) (pdRow (CatS.g i)) (chunkA (TI.sz (TI.mk (TypeDesc.struct #[Field.mk "ID" (9 : TypeId) 0 false "" "" 0, Field.mk "Code" (9 : TypeId) 1 false "" "" 16, Field.mk "Brand" (9 : TypeId) 2 false "" "" 32, Field.mk "Size" (23 : TypeId) 3 false "" "" 48, Field.mk "Attributes" (24 : TypeId) 6 false "" "" 72]) 7 96 (Value.agg #[Value.string (ByteArray.mk #[]), Value.string (ByteArray.mk #[]), Value.string (ByteArray.mk #[]), Value.int IntKind.i64 0, Value.int IntKind.i64 0, Value.int IntKind.i64 0, Value.slice none 0 0]) true)) (.str (PR.id p) :: .str (PR.code p) :: .str (PR.brand p) :: .int .i64 (PR.d p) :: .int .i64 (PR.c p) :: .int .i64 (PR.q p) :: .view 2 (PR.na p) (atRow (PR.nm p) (PR.vl p)) :: List.append [] (List.flatten (List.replicate (nat_lit 0) [.str ([]), .str ([]), .str ([]), .int .i64 0, .int .i64 0, .int .i64 0, .nil]))))) false)] [(0, .cells [.view 1 n (intRow v), .int .i64 (CatS.a i')] 31), (1, .row 26 7 (CatS.c i') (pdRow (CatS.g i')) false)]) ∧ P i') ((∀ (i_1 : Nat), i_1 < CatS.c i → true = true) ∧ ∃ (O' : List (Nat × AObj)), RowsEq [(0, .cells [.view 1 n (intRow v), .int .i64 (CatS.a i)] 31), (1, .row 26 7 (CatS.c i) (pdRow (CatS.g i)) false)] O' ∧ R (.exit 0) (St.mk [(7, .own 1 (CatS.c i))] O' 2 []))) := by kernel_rfl

theorem itemV_ok (hP : C.P = Tryd.prog) : RSpecOK C 12 R_itemV := by
  rintro args objs R h
  unfold R_itemV at h
  split at h
  · rename_i k sz n f a t
    obtain ⟨rfl, rfl, hf, ha, hR⟩ := h
    exact ACalls.frz 1 (item_ok hP _ _ _ ⟨rfl, rfl, hf, ha, fun id code brand d c q nm vl a' l1 l2 l3 l4 ha' hid hval => ⟨52, 2, 2, atRow nm vl, false, rfl, fun i hi => rfl, hR ⟨id, code, brand, d, c, q, 2, nm, vl⟩ a' ⟨l1, l2, l3, ⟨Nat.le_of_ble_eq_true rfl, Nat.le_of_ble_eq_true rfl⟩, l4⟩ ha' hid hval⟩⟩)
  · exact h.elim
theorem spoiledV_ok (hP : C.P = Tryd.prog) : RSpecOK C 6 R_spoiledV := by
  rintro args objs R h
  unfold R_spoiledV at h
  split at h
  · rename_i sz n f a t
    obtain ⟨rfl, rfl, hf, ha, hR⟩ := h
    refine ACalls.frz 1 (spoiled_ok hP _ _ _ ⟨rfl, rfl, hf, ha, fun id code brand d c q k nm vl a' l1 l2 l3 l4 l5 => ⟨52, 2, k, atRow nm vl, false, rfl, fun i hi => rfl, ?_⟩⟩)
    have := hR ⟨id, code, brand, d, c, q, k, nm, vl⟩ a' ⟨l1, l2, l3, l4, l5⟩
    have hb : Nat.ble k k = true := Nat.ble_eq_true_of_le (Nat.le_refl k)
    simpa [frzC, frzA, frz, rm, hb] using this
  · exact h.elim

theorem pd_ap (g : Nat → PR) (c : Nat) (p : PR) (F : Nat → List AV) (hF : F 0 = [.str p.id, .str p.code, .str p.brand, .int .i64 p.d, .int .i64 p.c, .int .i64 p.q, .view 2 p.na (atRow p.nm p.vl)]) (j : Nat) (hj : j < c + 1) : apF c (pdRow g) F j = pdRow (PR.put g c p) j := by
  unfold apF
  by_cases h : j < c
  · simp [h, pdRow, PR.put]
  · have : j = c := by omega
    subst this
    simp [pdRow, PR.put, hF]

theorem cat_loop (hP : C.P = Tryd.prog) (n : Nat) (v : Nat → Int) (a k N : Int) : LoopOK C 1 26 (loopC Tryd.f14 3) (L_cat n v a k N) := by
  rintro st Q ⟨h0, hN, hk, ha, hQ⟩
  refine AWP.ownNil 7 26 7 ?_
  refine LoopOK.mk (prg hP) [(12, .rel R_itemV)] 0 (.cons (itemV_ok hP) .nil) [0, 1, 7, 12, 13] [7] [] (S_cat n v k N) (fun i => (i.c : Int) ≤ N ∧ i.a = a + 5 * i.c ∧ ∀ j, j < i.c → (i.g j).Short) (fun i => N.toNat - i.c) ⟨0, fun _ => default, a⟩
    ⟨hN.1, by show a = a + 5 * ((0 : Nat) : Int); omega, fun j hj => absurd hj (Nat.not_lt_zero j)⟩ h0 (fun i hi => ?_) (fun i => ⟨fun _ _ => rfl, trivial⟩)
  obtain ⟨h1, h2, h3⟩ := hi
  rw [nf_cat_round]
  refine condP_dec (fun q => ?_) (fun q => ⟨fun _ _ => rfl, _, rowsEqR _, hQ i (by omega) h2 h3⟩)
  refine ⟨by simp only [inR]; omega, rfl, rfl, rfl, ⟨by omega, by omega⟩, fun p a' hp ha' _ _ => ⟨⟨by omega, rfl, by omega⟩, ⟨⟨Nat.le_refl _, rfl⟩, Nat.le_refl _, rfl, rfl, rfl, by omega, ?_⟩, by simp only [inR]; omega, ⟨i.c + 1, PR.put i.g i.c p, a'⟩, ⟨rfl, rfl, ⟨rfl, rfl, rfl, rfl, rfl, fun j hj => ?_⟩, trivial⟩, ⟨?_, ?_, fun j hj => ?_⟩, ?_⟩⟩
  · show (i.c + 1) * 96 ≤ _
    omega
  · exact pd_ap i.g i.c p _ rfl j hj
  · show ((i.c + 1 : Nat) : Int) ≤ N
    omega
  · show a' = a + 5 * ((i.c + 1 : Nat) : Int)
    omega
  · show (PR.put i.g i.c p j).Short
    unfold PR.put
    have hj : j < i.c + 1 := hj
    by_cases h : j < i.c
    · rw [decide_eq_true h]; exact h3 j h
    · rw [decide_eq_false h]; exact hp
  · show N.toNat - (i.c + 1) < N.toNat - i.c
    omega

theorem cat_ok (hP : C.P = Tryd.prog) : RSpecOK C 14 R_catalog := by
  rintro args objs R h
  unfold R_catalog at h
  split at h
  · rename_i k most sz n f a t
    obtain ⟨rfl, rfl, hf, ha, hk, hm, hR⟩ := h
    rw [hf] at hR ⊢
    generalize vInt f = v at *
    refine RSpecOK.wpL (prg hP) [(12, .rel R_itemV), (15, .det S_next)] [(3, L_cat n v (a + 1) k (nextV n v a (most + 1)))] 0 (.cons (itemV_ok hP) (.cons (next_ok hP) .nil)) (hP ▸ Tryd.func14) rfl rfl rfl [(loopC Tryd.f14 3, L_cat n v (a + 1) k (nextV n v a (most + 1)))] (by kernel_rfl) ⟨cat_loop hP _ _ _ _ _, trivial⟩ ?_
    rw [nf_cat]
    have r := nextV_range (show (1 : Int) ≤ most + 1 by omega) n v a
    exact ⟨by simp only [inR]; omega, ⟨rfl, rfl, rfl, ⟨by omega, by omega⟩, by omega, by omega⟩, ⟨rfl, rfl, ⟨rfl, rfl, rfl, rfl, rfl, fun i hi => absurd hi (Nat.not_lt_zero i)⟩, trivial⟩, ⟨by omega, by omega⟩, hk, ⟨by omega, by omega⟩, fun i h1 h2 h3 => ⟨fun _ _ => rfl, _, rowsEqR _, hR i.c i.g i.a (by omega) (by omega) h3⟩⟩
  · exact h.elim

end Go.Eng
/- Functions of the library: they compute what the plain functions say. -/
namespace Go.Eng
open Go.Proofs Go.RowKit
set_option maxRecDepth 20000

theorem nf_trimLeftA (s : List UInt8) (cells : List AV) (R : AV → List (Nat × AObj) → Prop) : wpFn te [] [(1, L_trimLeftA s cells 80)] 0 Tryd.f47 [.str s, .ptr 0 0] [.cells cells 80] R = (some (St.mk [(0, .str s), (1, .ptr 0 0)] [(0, .cells (AV.rnL (ren 1 []) cells) 80)] 1 []) = some (St.mk [(0, .str s), (1, .ptr 0 0)] [(0, .cells cells 80)] 1 []) ∧ SetOK cells ∧ R (.str (List.dropWhile (inSet cells) s)) [(0, .cells (AV.rnL (ren 1 []) cells) 80)]) := by kernel_rfl
theorem nf_trimLeftA_nil (cells : List AV) (P : List UInt8 → Prop) (R : Exit → St → Prop) : roundP ⟨te, [(59, .det S_setContains)], [], 1, 16, 0⟩ (loopB Tryd.f47 1) [0, 1] [0] [0] (S_tlState cells 80) P R (S_tlState cells 80 []) = (R (.exit 0) (St.mk [(0, .str [])] [(0, .cells (AV.rnL (ren 1 []) cells) 80)] 1 [])) := by kernel_rfl
theorem nf_trimLeftA_cons (x : UInt8) (s : List UInt8) (cells : List AV) (P : List UInt8 → Prop) (R : Exit → St → Prop) : roundP ⟨te, [(59, .det S_setContains)], [], 1, 16, 0⟩ (loopB Tryd.f47 1) [0, 1] [0] [0] (S_tlState cells 80) P R (S_tlState cells 80 (x :: s)) = (condP (decide ((0 : Int) < (↑(List.length (x :: s)) : Int))) (((0 : Int) ≤ (0 : Int) ∧ (0 : Int) < (↑(List.length (x :: s)) : Int)) ∧ (SetOK (AV.rnL (idxN [0]) cells) ∧ (0 : Int) ≤ (↑(UInt8.toNat (List.getD (x :: s) (Int.toNat (0 : Int)) (0 : UInt8))) : Int) ∧ (↑(UInt8.toNat (List.getD (x :: s) (Int.toNat (0 : Int)) (0 : UInt8))) : Int) < (256 : Int)) ∧ condP (!inSet (AV.rnL (idxN [0]) cells) (UInt8.ofNat (Int.toNat (↑(UInt8.toNat (List.getD (x :: s) (Int.toNat (0 : Int)) (0 : UInt8))) : Int)))) (R (.exit 0) (St.mk [(0, .str (x :: s))] [(0, .cells (AV.rnL (ren 1 []) (AV.rnL (sig [0] 1) (AV.rnL (idxN [0]) cells))) 80)] 1 [])) (((0 : Int) ≤ (1 : Int) ∧ (1 : Int) ≤ (↑(List.length (x :: s)) : Int)) ∧ ∃ (i' : List UInt8), some (St.mk [(0, .str (List.drop (Int.toNat (1 : Int)) (x :: s))), (1, .ptr 0 0)] [(0, .cells (AV.rnL (ren 1 []) (AV.rnL (sig [0] 1) (AV.rnL (idxN [0]) cells))) 80)] 1 []) = some (St.mk [(0, .str i'), (1, .ptr 0 0)] [(0, .cells cells 80)] 1 []) ∧ P i')) (R (.exit 0) (St.mk [(0, .str (x :: s))] [(0, .cells (AV.rnL (ren 1 []) cells) 80)] 1 []))) := by kernel_rfl
theorem nf_trimRightA (s : List UInt8) (cells : List AV) (R : AV → List (Nat × AObj) → Prop) : wpFn te [] [(1, L_trimRightA s cells 80)] 0 Tryd.f48 [.str s, .ptr 0 0] [.cells cells 80] R = (some (St.mk [(0, .str s), (1, .ptr 0 0)] [(0, .cells (AV.rnL (ren 1 []) cells) 80)] 1 []) = some (St.mk [(0, .str s), (1, .ptr 0 0)] [(0, .cells cells 80)] 1 []) ∧ SetOK cells ∧ List.length s ≤ 9223372036854775807 ∧ R (.str (dropR (inSet cells) s)) [(0, .cells (AV.rnL (ren 1 []) cells) 80)]) := by kernel_rfl
theorem nf_trimRightA_round (s : List UInt8) (cells : List AV) (P : List UInt8 → Prop) (R : Exit → St → Prop) : roundP ⟨te, [(59, .det S_setContains)], [], 1, 22, 0⟩ (loopB Tryd.f48 1) [0, 1] [0] [0] (S_tlState cells 80) P R (S_tlState cells 80 s) = (condP (decide ((0 : Int) < (↑(List.length s) : Int))) (inR .i64 ((↑(List.length s) : Int) - (1 : Int)) ∧ ((0 : Int) ≤ (↑(List.length s) : Int) - (1 : Int) ∧ (↑(List.length s) : Int) - (1 : Int) < (↑(List.length s) : Int)) ∧ (SetOK (AV.rnL (idxN [0]) cells) ∧ (0 : Int) ≤ (↑(UInt8.toNat (List.getD s (Int.toNat ((↑(List.length s) : Int) - (1 : Int))) (0 : UInt8))) : Int) ∧ (↑(UInt8.toNat (List.getD s (Int.toNat ((↑(List.length s) : Int) - (1 : Int))) (0 : UInt8))) : Int) < (256 : Int)) ∧ condP (!inSet (AV.rnL (idxN [0]) cells) (UInt8.ofNat (Int.toNat (↑(UInt8.toNat (List.getD s (Int.toNat ((↑(List.length s) : Int) - (1 : Int))) (0 : UInt8))) : Int)))) (R (.exit 0) (St.mk [(0, .str s)] [(0, .cells (AV.rnL (ren 1 []) (AV.rnL (sig [0] 1) (AV.rnL (idxN [0]) cells))) 80)] 1 [])) (inR .i64 ((↑(List.length s) : Int) - (1 : Int)) ∧ ((0 : Int) ≤ (↑(List.length s) : Int) - (1 : Int) ∧ (↑(List.length s) : Int) - (1 : Int) ≤ (↑(List.length s) : Int)) ∧ ∃ (i' : List UInt8), some (St.mk [(0, .str (List.take (Int.toNat ((↑(List.length s) : Int) - (1 : Int))) s)), (1, .ptr 0 0)] [(0, .cells (AV.rnL (ren 1 []) (AV.rnL (sig [0] 1) (AV.rnL (idxN [0]) cells))) 80)] 1 []) = some (St.mk [(0, .str i'), (1, .ptr 0 0)] [(0, .cells cells 80)] 1 []) ∧ P i')) (R (.exit 0) (St.mk [(0, .str s)] [(0, .cells (AV.rnL (ren 1 []) cells) 80)] 1 []))) := by kernel_rfl
theorem nf_trim (s cs : List UInt8) (R : AV → List (Nat × AObj) → Prop) : wpFn te [(47, .det S_trimLeftA), (48, .det S_trimRightA)] [(1005, L_trimSet s cs)] 0 Tryd.f36 [.str s, .str cs] [] R = (condP (decide (s = [])) (R (.str s) []) (condP (decide (cs = [])) (R (.str s) []) (condP (decide ((↑(List.length cs) : Int) = (1 : Int))) (((0 : Int) ≤ (0 : Int) ∧ (0 : Int) < (↑(List.length cs) : Int)) ∧ condP (decide ((↑(UInt8.toNat (List.getD cs (Int.toNat (0 : Int)) (0 : UInt8))) : Int) < (128 : Int))) (((0 : Int) ≤ (0 : Int) ∧ (0 : Int) < (↑(List.length cs) : Int)) ∧ False) (some (St.mk [(0, .str s), (1, .str cs)] [] 0 []) = some (St.mk [(0, .str s), (1, .str cs)] [] 0 []) ∧ List.length cs < 4294967281 ∧ (∀ (b : UInt8), b ∈ cs → UInt8.toNat b < 128) ∧ (SetOK (AV.rnL (idxN [0]) (setAV cs)) ∧ List.length s ≤ 9223372036854775807) ∧ SetOK (AV.rnL (idxN [0]) (AV.rnL (sig [0] 1) (AV.rnL (idxN [0]) (setAV cs)))) ∧ R (.str (List.dropWhile (inSet (AV.rnL (idxN [0]) (AV.rnL (sig [0] 1) (AV.rnL (idxN [0]) (setAV cs))))) (dropR (inSet (AV.rnL (idxN [0]) (setAV cs))) s))) [])) (some (St.mk [(0, .str s), (1, .str cs)] [] 0 []) = some (St.mk [(0, .str s), (1, .str cs)] [] 0 []) ∧ List.length cs < 4294967281 ∧ (∀ (b : UInt8), b ∈ cs → UInt8.toNat b < 128) ∧ (SetOK (AV.rnL (idxN [0]) (setAV cs)) ∧ List.length s ≤ 9223372036854775807) ∧ SetOK (AV.rnL (idxN [0]) (AV.rnL (sig [0] 1) (AV.rnL (idxN [0]) (setAV cs)))) ∧ R (.str (List.dropWhile (inSet (AV.rnL (idxN [0]) (AV.rnL (sig [0] 1) (AV.rnL (idxN [0]) (setAV cs))))) (dropR (inSet (AV.rnL (idxN [0]) (setAV cs))) s))) [])))) := by kernel_rfl


variable {C : Ctx}

theorem mem2 {α : Type} {l : List α} (h : l.length = 2) : ∃ a b, l = [a, b] := by
  match l, h with
  | [a, b], _ => exact ⟨a, b, rfl⟩
theorem mem1 {α : Type} {l : List α} (h : l.length = 1) : ∃ a, l = [a] := by
  match l, h with
  | [a], _ => exact ⟨a, rfl⟩

theorem setContains_ok (hP : C.P = Tryd.prog) : SpecOK C 59 S_setContains := by
  rintro args objs U Os vc h hvc
  unfold S_setContains at h
  split at h <;> simp only [Option.some.injEq, Prod.mk.injEq, reduceCtorEq] at h
  rename_i x cells t
  obtain ⟨rfl, rfl, rfl⟩ := h
  obtain ⟨hc, h0, h1⟩ := hvc
  obtain ⟨n, rfl⟩ : ∃ n : UInt8, x = n.toNat := ⟨UInt8.ofNat x.toNat, by simp; omega⟩
  refine ACalls.quiet ⟨Tryd.f59, hP ▸ Tryd.func59, rfl, by decide⟩ fun E bs w cargs hW hl hv => ?_
  obtain ⟨a, b, rfl⟩ := mem2 hl
  have e2 := (hv 1 _ _ rfl rfl).int_iff
  subst e2
  obtain ⟨b, y, rfl, hcc, hy⟩ := hW.cell (r := 0) rfl (hv 0 _ _ rfl rfl) (hc.at_ n)
  cases hy
  rw [hP]
  refine (Tryd.asciiSet_contains b n _ w hcc).mono ?_
  rintro e w' ⟨rfl, rfl⟩
  refine ⟨_, rfl, rfl, ?_⟩
  have : UInt8.ofNat (n.toNat : Int).toNat = n := by simp
  rw [this]
  exact .bool

theorem trimLeftA_loop (hP : C.P = Tryd.prog) (s : List UInt8) (cells : List AV) : LoopOK C 1 16 (loopC Tryd.f47 1) (L_trimLeftA s cells 80) := by
  rintro st Q ⟨h0, hc, hQ⟩
  refine LoopOK.mk (prg hP) [(59, .det S_setContains)] 0 (.cons (setContains_ok hP) .nil) [0, 1] [0] [0] (S_tlState cells 80) (fun s' => s'.dropWhile (inSet cells) = s.dropWhile (inSet cells)) List.length s rfl h0 fun s' hs' => ?_
  have hrn := hc.rn
  cases s' with
  | nil =>
    rw [nf_trimLeftA_nil]
    simp only [hrn]
    rw [← hs'] at hQ
    exact hQ
  | cons x r =>
    rw [nf_trimLeftA_cons]
    simp only [hrn]
    have ex : UInt8.ofNat (Int.toNat (↑(UInt8.toNat (List.getD (x :: r) (Int.toNat 0) 0)))) = x := by simp
    have hx : (List.getD (x :: r) (Int.toNat 0) 0) = x := rfl
    have hlt : x.toNat < 256 := x.toNat_lt
    have hlen : (((x :: r).length : Nat) : Int) = (r.length : Int) + 1 := by simp
    rw [hx] at ex
    simp only [hx, ex, hlen]
    refine condP_intro (fun _ => ⟨by omega, ⟨hc, by omega, by omega⟩, condP_intro (fun h => ?_) (fun h => ?_)⟩) (fun h => ?_)
    · have h : inSet cells x = false := by simpa using h
      rw [← hs', List.dropWhile_cons, h] at hQ
      exact hQ
    · have h : inSet cells x = true := by simpa using h
      refine ⟨by omega, r, rfl, ?_, by simp⟩
      rw [← hs', List.dropWhile_cons, h]; rfl
    · have := of_decide_eq_false h; omega

theorem trimLeftA_ok (hP : C.P = Tryd.prog) : SpecOK C 47 S_trimLeftA := by
  rintro args objs U Os vc h hvc
  unfold S_trimLeftA at h
  split at h <;> simp only [Option.some.injEq, Prod.mk.injEq, reduceCtorEq] at h
  rename_i s cells
  obtain ⟨rfl, rfl, rfl⟩ := h
  refine SpecOK.wpL (prg hP) [] [(1, L_trimLeftA s cells 80)] 0 .nil (hP ▸ Tryd.func47) rfl rfl rfl [(loopC Tryd.f47 1, L_trimLeftA s cells 80)] (by kernel_rfl) ⟨trimLeftA_loop hP s cells, trivial⟩ ?_
  rw [nf_trimLeftA]
  simp only [hvc.rn]
  exact ⟨trivial, hvc, by simp⟩

theorem trimRightA_loop (hP : C.P = Tryd.prog) (s : List UInt8) (cells : List AV) : LoopOK C 1 22 (loopC Tryd.f48 1) (L_trimRightA s cells 80) := by
  rintro st Q ⟨h0, hc, hm, hQ⟩
  refine LoopOK.mk (prg hP) [(59, .det S_setContains)] 0 (.cons (setContains_ok hP) .nil) [0, 1] [0] [0] (S_tlState cells 80) (fun s' => dropR (inSet cells) s' = dropR (inSet cells) s ∧ s'.length ≤ maxLen) List.length s ⟨rfl, hm⟩ h0 fun s' hs' => ?_
  have hrn := hc.rn
  obtain ⟨hs', hm'⟩ := hs'
  have hm2 : s'.length ≤ 9223372036854775807 := hm'
  rw [nf_trimRightA_round]
  simp only [hrn]
  rcases snoc_cases s' with rfl | ⟨r, x, rfl⟩
  · refine condP_intro (fun h => ?_) (fun _ => ?_)
    · have := of_decide_eq_true h; simp at this
    · rw [← hs'] at hQ; exact hQ
  · have hlen : (((r ++ [x]).length : Nat) : Int) = (r.length : Int) + 1 := by simp
    have e1 : ((r.length : Int) + 1 - 1).toNat = r.length := by omega
    have hx : (r ++ [x]).getD r.length 0 = x := by simp
    have ht : (r ++ [x]).take r.length = r := by simp
    have ex : UInt8.ofNat ((x.toNat : Int)).toNat = x := by simp
    have hlt : x.toNat < 256 := x.toNat_lt
    have hlr : (r ++ [x]).length = r.length + 1 := by simp
    simp only [hlen, e1, hx, ht, ex, inR]
    refine condP_intro (fun _ => ⟨by omega, by omega, ⟨hc, by omega, by omega⟩, condP_intro (fun h => ?_) (fun h => ?_)⟩) (fun h => ?_)
    · have h : inSet cells x = false := by simpa using h
      rw [← hs', dropR_snoc, h] at hQ
      exact hQ
    · have h : inSet cells x = true := by simpa using h
      refine ⟨by omega, by omega, r, rfl, ⟨?_, ?_⟩, by omega⟩
      · rw [← hs', dropR_snoc, h]; rfl
      · show r.length ≤ 9223372036854775807
        omega
    · have := of_decide_eq_false h; omega

theorem trimRightA_ok (hP : C.P = Tryd.prog) : SpecOK C 48 S_trimRightA := by
  rintro args objs U Os vc h hvc
  unfold S_trimRightA at h
  split at h <;> simp only [Option.some.injEq, Prod.mk.injEq, reduceCtorEq] at h
  rename_i s cells
  obtain ⟨rfl, rfl, rfl⟩ := h
  refine SpecOK.wpL (prg hP) [] [(1, L_trimRightA s cells 80)] 0 .nil (hP ▸ Tryd.func48) rfl rfl rfl [(loopC Tryd.f48 1, L_trimRightA s cells 80)] (by kernel_rfl) ⟨trimRightA_loop hP s cells, trivial⟩ ?_
  rw [nf_trimRightA]
  simp only [hvc.1.rn]
  exact ⟨trivial, hvc.1, hvc.2, by simp⟩


theorem setCells_V {w : World} {M : Nat → Prop} {bs : Nat → Option Hd} (l : List UInt8) : CellsV w M bs (Lib.setCells l) (setAV l) := by
  have hs : (Lib.setCells l).size = 256 := Lib.setCells_size l
  have hl : (setAV l).length = 256 := (setAV_ok l).1
  have at_ : ∀ j, j < 256 → (Lib.setCells l)[j]? = some (.bool (l.contains (UInt8.ofNat j))) := by
    intro j hj
    have := Lib.setCells_at l (UInt8.ofNat j)
    have e : (UInt8.ofNat j).toNat = j := by simp; omega
    rwa [e] at this
  refine ⟨by rw [hs, hl], fun j v hv => ?_, fun j v u hv hu => ?_⟩
  · have hj : j < 256 := by rw [← hs]; exact (Array.getElem?_eq_some_iff.1 hv).1
    rw [at_ j hj] at hv
    cases hv; rfl
  · have hj : j < 256 := by rw [← hs]; exact (Array.getElem?_eq_some_iff.1 hv).1
    rw [at_ j hj] at hv
    cases hv
    have : (setAV l)[j]? = some (.bool (l.contains (UInt8.ofNat j))) := by unfold setAV; simp [hj]
    rw [this] at hu
    cases hu
    exact .bool

theorem makeSet_ok (hP : C.P = Tryd.prog) : SpecOK C 46 S_makeSet := by
  rintro args objs U Os vc h hvc
  unfold S_makeSet at h
  split at h <;> simp only [Option.some.injEq, Prod.mk.injEq, reduceCtorEq] at h
  rename_i l
  obtain ⟨rfl, rfl, rfl⟩ := h
  obtain ⟨hl, hascii⟩ := hvc
  refine ACalls.below ⟨Tryd.f46, hP ▸ Tryd.func46, rfl, by decide⟩ fun w M cargs _ _ hM hlen hv => ?_
  obtain ⟨a, rfl⟩ := mem1 hlen
  have e1 := (hv 0 _ _ rfl rfl).str_iff
  subst e1
  rw [hP]
  refine (Tryd.strings_makeASCIISet (fun w => Tryd.zeroValue80 w) ⟨l.toArray⟩ w (by simpa [ByteArray.size] using hl) (fun j b hb => hascii b (by simpa using List.mem_of_getElem? hb))).mono ?_
  rintro e w' ⟨rfl, rfl⟩
  have hc := setCells_V (w := w.alloc (.cells (Lib.setCells l) 80)) (M := M) (bs := nob) l
  refine ⟨_, rfl, (Below.refl _ _).alloc (Nat.le_refl _) _, .tuple rfl fun j v u hv hu => ?_⟩
  match j with
  | 0 => simp at hv hu; subst hv; subst hu; exact .agg hc.1 hc.2.1 hc.2.2
  | 1 => simp at hv hu; subst hv; subst hu; exact .bool
  | j + 2 => simp at hv

def teSet : TE := [(80, { desc := .array 256 4, sz := 256, bytes := 256, zero := .agg (Array.replicate 256 (.bool false)) })]

@[irreducible] def zeroSet : List AV := List.replicate 256 (.bool false)

theorem avcs_bool (n : Nat) : avcs (List.replicate n (.bool false)) = some (List.replicate n (.bool false)) := by
  induction n with
  | zero => rfl
  | succ n ih => simp [List.replicate_succ, avcs, avc, ih]

theorem teSet_ok : TE.ok Tryd.prog teSet := by
  refine TE.ok_cons Tryd.underlying80 ⟨Tryd.t80, Tryd.type80, rfl, rfl, by kernel_rfl⟩ (fun h => by cases h) TE.ok_nil

theorem zeroSet_of : avcs (Value.agg (Array.replicate 256 (.bool false))).cells.toList = some zeroSet := by
  have e : (Value.agg (Array.replicate 256 (.bool false))).cells.toList = List.replicate 256 (Value.bool false) := Array.toList_replicate
  rw [e]
  unfold zeroSet
  exact avcs_bool 256

theorem zeroSet_len (cs : List UInt8) : zeroSet.length = (setAV cs).length := by
  rw [(setAV_ok cs).1]
  unfold zeroSet
  rw [List.length_replicate]

theorem trimSet_ok (hP : C.P = Tryd.prog) (s cs : List UInt8) : LoopOK C 0 43 (regC Tryd.f36 5) (L_trimSet s cs) := by
  rintro st Q ⟨h0, hl, hascii, hQ⟩
  refine AWP.canonIs [0, 1] h0 ?_ trivial
  have hte := (prg hP).ok
  have hts : TE.ok C.P teSet := hP ▸ teSet_ok
  have hrn := (setAV_ok cs).rn
  refine AWP.canQ (te := te) (Fe := [0, 5, 6]) (Fr := []) ?_
  show AWP C 0 43 (.region 5 (List.toArray _) false) _ _
  refine AWP.region ?_
  refine AOps.pure hte (prg hP).one rfl rfl rfl trivial ?_
  refine AOps.callD (u2 := .nil) (cobjs := []) (U := .tuple [.agg (setAV cs), .bool true]) (Os := []) (T2 := [(31, .tuple [.agg (setAV cs), .bool true]), (30, .str cs), (0, .str s), (1, .str cs)]) [] rfl rfl rfl rfl rfl rfl trivial (makeSet_ok hP [.str cs] [] _ _ _ rfl ⟨hl, hascii⟩) rfl ?_ rfl rfl ?_
  · show (31, AV.tuple [.agg (AV.rnL _ (setAV cs)), .bool true]) :: _ = _
    rw [hrn]; rfl
  refine AOps.pure hte (prg hP).one rfl rfl rfl trivial ?_
  refine AOps.pure hte (prg hP).one rfl rfl rfl trivial ?_
  refine AOps.pure hte (prg hP).one rfl rfl rfl trivial ?_
  refine AOps.step (l := [(_, .cells zeroSet 80)]) rfl (OpStep.allocW hts (t := 80) rfl rfl rfl zeroSet_of) rfl rfl rfl rfl ?_
  refine AOps.step rfl (OpStep.storeW hts (t := 80) (new := setAV cs) rfl rfl rfl rfl rfl rfl (zeroSet_len cs) (setAV_ok cs).1) rfl rfl rfl rfl ?_
  refine AOps.pure hte (prg hP).one rfl rfl rfl trivial ?_
  refine AOps.nil ?_
  refine canQ_of (s' := ⟨[(0, .str s), (5, .ptr 0 0), (6, .bool true)], [(0, .cells (AV.rnL (ren 0 [(16, 0)]) (setAV cs)) 80)], 1, []⟩) (by simp) ?_ ?_
  · rfl
  · rw [hrn]; exact hQ

theorem trim_ok (hP : C.P = Tryd.prog) : SpecOK C 36 S_trim := by
  rintro args objs U Os vc h hvc
  unfold S_trim at h
  split at h <;> simp only [Option.some.injEq, Prod.mk.injEq, reduceCtorEq] at h
  rename_i s cs
  obtain ⟨rfl, rfl, rfl⟩ := h
  obtain ⟨hs, h2, hl, hascii⟩ := hvc
  refine SpecOK.wpL (prg hP) [(47, .det S_trimLeftA), (48, .det S_trimRightA)] [(1005, L_trimSet s cs)] 0 (.cons (trimLeftA_ok hP) (.cons (trimRightA_ok hP) .nil)) (hP ▸ Tryd.func36) rfl rfl rfl
    [(regC Tryd.f36 5, L_trimSet s cs)] (by kernel_rfl) ⟨trimSet_ok hP s cs, trivial⟩ ?_
  rw [nf_trim]
  have hrn := (setAV_ok cs).rn
  have hc1 : ∀ h : (cs.length : Int) = 1, False := by intro h; omega
  have hin : inSet (setAV cs) = (cs.contains ·) := funext (inSet_setAV cs)
  simp only [hrn, hin]
  refine condP_intro (fun h => ?_) (fun _ => condP_intro (fun h => ?_) (fun _ => condP_intro (fun h => ?_) (fun _ => ?_)))
  · have h := of_decide_eq_true h
    subst h
    simp [trimF, dropR]
  · have h := of_decide_eq_true h
    subst h
    simp at h2
  · exact (hc1 (of_decide_eq_true h)).elim
  · exact ⟨trivial, hl, hascii, ⟨setAV_ok cs, hs⟩, setAV_ok cs, rfl, trivial⟩

end Go.Eng
