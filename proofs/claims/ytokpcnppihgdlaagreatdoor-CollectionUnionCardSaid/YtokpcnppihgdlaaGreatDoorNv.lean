/- Lemmas that the tied card of CollectionUnion is proved by. -/
import Derived.Test.YtokpcnppihgdlaaGreatDoorNp
import Derived.Test.YtokpcnppihgdlaaGreatDoorNu
/- Messages of a tape. -/
namespace Go.Eng
open Go.Proofs Go.RowKit
variable {C : Ctx} [C.Loose]
set_option maxRecDepth 20000
theorem nf_device (n : Nat) (v : Nat → Int) (a : Int) (R : AV → List (Nat × AObj) → Prop) : wpFn te [(27, .det S_next)] [] 0 Tryz.f44 [.ptr 0 0] [.cells [.view 1 n (intRow v), .int .i64 a] 28] R = ((3 ≤ 16777216 ∧ 1 = 1 ∧ 3 ≤ 9223372036854775807) ∧ (28 = 28 ∧ 1 = 1 ∧ intRow v = intRow (vInt (intRow v)) ∧ ((1 : Int) ≤ (3 : Int) ∧ (3 : Int) ≤ (1000000 : Int)) ∧ (0 : Int) ≤ a ∧ a ≤ (4611686018427387904 : Int)) ∧ ((0 : Int) ≤ nextV n (vInt (intRow v)) a (3 : Int) ∧ nextV n (vInt (intRow v)) a (3 : Int) < (↑3 : Int)) ∧ (Int.toNat (nextV n (vInt (intRow v)) a (3 : Int)) < 3 ∧ 1 = 1) ∧ R (.str (List.getD [[(97 : UInt8)], [(98 : UInt8)], [(99 : UInt8)]] (Int.toNat (nextV n (vInt (intRow v)) a (3 : Int))) [])) [(0, .cells [.view 1 n (intRow v), .int .i64 (a + (1 : Int))] 28)]) := by kernel_rfl
theorem nf_mvisit (n : Nat) (v : Nat → Int) (a : Int) (R : AV → List (Nat × AObj) → Prop) : wpFn te [(27, .det S_next), (47, .det S_outlet), (48, .det S_product), (43, .det S_id)] [] 3 Tryz.f45 [.ptr 0 0] [.cells [.view 1 n (intRow v), .int .i64 a] 28] R = ((28 = 28 ∧ 1 = 1 ∧ intRow v = intRow (vInt (intRow v)) ∧ (0 : Int) ≤ a ∧ a ≤ (4611686018427387000 : Int)) ∧ (28 = 28 ∧ 1 = 1 ∧ intRow v = intRow (vInt (intRow v)) ∧ (0 : Int) ≤ a + (1 : Int) ∧ a + (1 : Int) ≤ (4611686018427387000 : Int)) ∧ (28 = 28 ∧ 1 = 1 ∧ intRow v = intRow (vInt (intRow v)) ∧ ((1 : Int) ≤ (4 : Int) ∧ (4 : Int) ≤ (1000000 : Int)) ∧ (0 : Int) ≤ a + (1 : Int) + (1 : Int) ∧ a + (1 : Int) + (1 : Int) ≤ (4611686018427387904 : Int)) ∧ inR .i64 ((1440 : Int) + nextV n (vInt (intRow v)) (a + (1 : Int) + (1 : Int)) (4 : Int)) ∧ (28 = 28 ∧ 1 = 1 ∧ intRow v = intRow (vInt (intRow v)) ∧ ((1 : Int) ≤ (100 : Int) ∧ (100 : Int) ≤ (1000000 : Int)) ∧ (0 : Int) ≤ a + (1 : Int) + (1 : Int) + (1 : Int) ∧ a + (1 : Int) + (1 : Int) + (1 : Int) ≤ (4611686018427387904 : Int)) ∧ inR .i64 ((43830 : Int) + nextV n (vInt (intRow v)) (a + (1 : Int) + (1 : Int) + (1 : Int)) (100 : Int)) ∧ (7 ≤ 16777216 ∧ 1 = 1 ∧ 7 ≤ 9223372036854775807) ∧ (28 = 28 ∧ 1 = 1 ∧ intRow v = intRow (vInt (intRow v)) ∧ ((1 : Int) ≤ (7 : Int) ∧ (7 : Int) ≤ (1000000 : Int)) ∧ (0 : Int) ≤ a + (1 : Int) + (1 : Int) + (1 : Int) + (1 : Int) ∧ a + (1 : Int) + (1 : Int) + (1 : Int) + (1 : Int) ≤ (4611686018427387904 : Int)) ∧ ((0 : Int) ≤ nextV n (vInt (intRow v)) (a + (1 : Int) + (1 : Int) + (1 : Int) + (1 : Int)) (7 : Int) ∧ nextV n (vInt (intRow v)) (a + (1 : Int) + (1 : Int) + (1 : Int) + (1 : Int)) (7 : Int) < (↑7 : Int)) ∧ (Int.toNat (nextV n (vInt (intRow v)) (a + (1 : Int) + (1 : Int) + (1 : Int) + (1 : Int)) (7 : Int)) < 7 ∧ 1 = 1) ∧ inR .i64 ((1 : Int) + List.getD [(0 : Int), (0 : Int), (0 : Int), (1 : Int), (2 : Int), (3 : Int), (4 : Int)] (Int.toNat (nextV n (vInt (intRow v)) (a + (1 : Int) + (1 : Int) + (1 : Int) + (1 : Int)) (7 : Int))) (0 : Int)) ∧ condP (!decide ((1 : Int) + List.getD [(0 : Int), (0 : Int), (0 : Int), (1 : Int), (2 : Int), (3 : Int), (4 : Int)] (Int.toNat (nextV n (vInt (intRow v)) (a + (1 : Int) + (1 : Int) + (1 : Int) + (1 : Int)) (7 : Int))) (0 : Int) = (3 : Int))) (condP (!decide ((1 : Int) + List.getD [(0 : Int), (0 : Int), (0 : Int), (1 : Int), (2 : Int), (3 : Int), (4 : Int)] (Int.toNat (nextV n (vInt (intRow v)) (a + (1 : Int) + (1 : Int) + (1 : Int) + (1 : Int)) (7 : Int))) (0 : Int) = (4 : Int))) ((28 = 28 ∧ 1 = 1 ∧ intRow v = intRow (vInt (intRow v)) ∧ ((1 : Int) ≤ (4 : Int) ∧ (4 : Int) ≤ (1000000 : Int)) ∧ (0 : Int) ≤ a + (1 : Int) + (1 : Int) + (1 : Int) + (1 : Int) + (1 : Int) ∧ a + (1 : Int) + (1 : Int) + (1 : Int) + (1 : Int) + (1 : Int) ≤ (4611686018427387904 : Int)) ∧ inR .i64 (nextV n (vInt (intRow v)) (a + (1 : Int) + (1 : Int) + (1 : Int) + (1 : Int) + (1 : Int)) (4 : Int) * (5 : Int)) ∧ inR .i64 ((100 : Int) + nextV n (vInt (intRow v)) (a + (1 : Int) + (1 : Int) + (1 : Int) + (1 : Int) + (1 : Int)) (4 : Int) * (5 : Int)) ∧ condP (decide ((1 : Int) + List.getD [(0 : Int), (0 : Int), (0 : Int), (1 : Int), (2 : Int), (3 : Int), (4 : Int)] (Int.toNat (nextV n (vInt (intRow v)) (a + (1 : Int) + (1 : Int) + (1 : Int) + (1 : Int)) (7 : Int))) (0 : Int) = (5 : Int))) ((28 = 28 ∧ 1 = 1 ∧ intRow v = intRow (vInt (intRow v)) ∧ (0 : Int) ≤ a + (1 : Int) + (1 : Int) + (1 : Int) + (1 : Int) + (1 : Int) + (1 : Int) ∧ a + (1 : Int) + (1 : Int) + (1 : Int) + (1 : Int) + (1 : Int) + (1 : Int) ≤ (4611686018427387000 : Int)) ∧ condP (decide (idF (nextV n (vInt (intRow v)) (a + (1 : Int) + (1 : Int) + (1 : Int) + (1 : Int) + (1 : Int) + (1 : Int)) (4 : Int)) = idF (nextV n (vInt (intRow v)) (a + (1 : Int)) (4 : Int)))) (True ∧ condP (decide ([(fun (i : Nat) => UInt8.ofNat (Int.toNat (intOf (List.headD (idRow (idV (4 : Int)) i) .any)))) (nat_lit 0), (fun (i : Nat) => UInt8.ofNat (Int.toNat (intOf (List.headD (idRow (idV (4 : Int)) i) .any)))) (nat_lit 1), (fun (i : Nat) => UInt8.ofNat (Int.toNat (intOf (List.headD (idRow (idV (4 : Int)) i) .any)))) (nat_lit 2), (fun (i : Nat) => UInt8.ofNat (Int.toNat (intOf (List.headD (idRow (idV (4 : Int)) i) .any)))) (nat_lit 3), (fun (i : Nat) => UInt8.ofNat (Int.toNat (intOf (List.headD (idRow (idV (4 : Int)) i) .any)))) (nat_lit 4), (fun (i : Nat) => UInt8.ofNat (Int.toNat (intOf (List.headD (idRow (idV (4 : Int)) i) .any)))) (nat_lit 5), (fun (i : Nat) => UInt8.ofNat (Int.toNat (intOf (List.headD (idRow (idV (4 : Int)) i) .any)))) (nat_lit 6), UInt8.ofNat (Int.toNat ((48 : Int) + Prod.fst (cdF (id7 (4 : Int)))))] = idF (nextV n (vInt (intRow v)) (a + (1 : Int)) (4 : Int)))) (True ∧ condP (decide ([(fun (i : Nat) => UInt8.ofNat (Int.toNat (intOf (List.headD (idRow (idV (4 : Int)) i) .any)))) (nat_lit 0), (fun (i : Nat) => UInt8.ofNat (Int.toNat (intOf (List.headD (idRow (idV (4 : Int)) i) .any)))) (nat_lit 1), (fun (i : Nat) => UInt8.ofNat (Int.toNat (intOf (List.headD (idRow (idV (4 : Int)) i) .any)))) (nat_lit 2), (fun (i : Nat) => UInt8.ofNat (Int.toNat (intOf (List.headD (idRow (idV (4 : Int)) i) .any)))) (nat_lit 3), (fun (i : Nat) => UInt8.ofNat (Int.toNat (intOf (List.headD (idRow (idV (4 : Int)) i) .any)))) (nat_lit 4), (fun (i : Nat) => UInt8.ofNat (Int.toNat (intOf (List.headD (idRow (idV (4 : Int)) i) .any)))) (nat_lit 5), (fun (i : Nat) => UInt8.ofNat (Int.toNat (intOf (List.headD (idRow (idV (4 : Int)) i) .any)))) (nat_lit 6), UInt8.ofNat (Int.toNat ((48 : Int) + Prod.fst (cdF (id7 (4 : Int)))))] = idF (nextV n (vInt (intRow v)) (a + (1 : Int)) (4 : Int)))) (True ∧ False) ((True ∧ True) ∧ R (.agg [.str (outF (nextV n (vInt (intRow v)) a (3 : Int))), .str (idF (nextV n (vInt (intRow v)) (a + (1 : Int)) (4 : Int))), .int .i64 ((1440 : Int) + nextV n (vInt (intRow v)) (a + (1 : Int) + (1 : Int)) (4 : Int)), .int .i64 ((43830 : Int) + nextV n (vInt (intRow v)) (a + (1 : Int) + (1 : Int) + (1 : Int)) (100 : Int)), .int .i64 ((1 : Int) + List.getD [(0 : Int), (0 : Int), (0 : Int), (1 : Int), (2 : Int), (3 : Int), (4 : Int)] (Int.toNat (nextV n (vInt (intRow v)) (a + (1 : Int) + (1 : Int) + (1 : Int) + (1 : Int)) (7 : Int))) (0 : Int)), .int .i64 ((100 : Int) + nextV n (vInt (intRow v)) (a + (1 : Int) + (1 : Int) + (1 : Int) + (1 : Int) + (1 : Int)) (4 : Int) * (5 : Int)), .str [(fun (i : Nat) => UInt8.ofNat (Int.toNat (intOf (List.headD (idRow (idV (4 : Int)) i) .any)))) (nat_lit 0), (fun (i : Nat) => UInt8.ofNat (Int.toNat (intOf (List.headD (idRow (idV (4 : Int)) i) .any)))) (nat_lit 1), (fun (i : Nat) => UInt8.ofNat (Int.toNat (intOf (List.headD (idRow (idV (4 : Int)) i) .any)))) (nat_lit 2), (fun (i : Nat) => UInt8.ofNat (Int.toNat (intOf (List.headD (idRow (idV (4 : Int)) i) .any)))) (nat_lit 3), (fun (i : Nat) => UInt8.ofNat (Int.toNat (intOf (List.headD (idRow (idV (4 : Int)) i) .any)))) (nat_lit 4), (fun (i : Nat) => UInt8.ofNat (Int.toNat (intOf (List.headD (idRow (idV (4 : Int)) i) .any)))) (nat_lit 5), (fun (i : Nat) => UInt8.ofNat (Int.toNat (intOf (List.headD (idRow (idV (4 : Int)) i) .any)))) (nat_lit 6), UInt8.ofNat (Int.toNat ((48 : Int) + Prod.fst (cdF (id7 (4 : Int)))))]]) [(0, .cells [.view 1 n (intRow v), .int .i64 (a + (1 : Int) + (1 : Int) + (1 : Int) + (1 : Int) + (1 : Int) + (1 : Int) + (1 : Int))] 28)])) ((True ∧ True) ∧ R (.agg [.str (outF (nextV n (vInt (intRow v)) a (3 : Int))), .str (idF (nextV n (vInt (intRow v)) (a + (1 : Int)) (4 : Int))), .int .i64 ((1440 : Int) + nextV n (vInt (intRow v)) (a + (1 : Int) + (1 : Int)) (4 : Int)), .int .i64 ((43830 : Int) + nextV n (vInt (intRow v)) (a + (1 : Int) + (1 : Int) + (1 : Int)) (100 : Int)), .int .i64 ((1 : Int) + List.getD [(0 : Int), (0 : Int), (0 : Int), (1 : Int), (2 : Int), (3 : Int), (4 : Int)] (Int.toNat (nextV n (vInt (intRow v)) (a + (1 : Int) + (1 : Int) + (1 : Int) + (1 : Int)) (7 : Int))) (0 : Int)), .int .i64 ((100 : Int) + nextV n (vInt (intRow v)) (a + (1 : Int) + (1 : Int) + (1 : Int) + (1 : Int) + (1 : Int)) (4 : Int) * (5 : Int)), .str [(fun (i : Nat) => UInt8.ofNat (Int.toNat (intOf (List.headD (idRow (idV (4 : Int)) i) .any)))) (nat_lit 0), (fun (i : Nat) => UInt8.ofNat (Int.toNat (intOf (List.headD (idRow (idV (4 : Int)) i) .any)))) (nat_lit 1), (fun (i : Nat) => UInt8.ofNat (Int.toNat (intOf (List.headD (idRow (idV (4 : Int)) i) .any)))) (nat_lit 2), (fun (i : Nat) => UInt8.ofNat (Int.toNat (intOf (List.headD (idRow (idV (4 : Int)) i) .any)))) (nat_lit 3), (fun (i : Nat) => UInt8.ofNat (Int.toNat (intOf (List.headD (idRow (idV (4 : Int)) i) .any)))) (nat_lit 4), (fun (i : Nat) => UInt8.ofNat (Int.toNat (intOf (List.headD (idRow (idV (4 : Int)) i) .any)))) (nat_lit 5), (fun (i : Nat) => UInt8.ofNat (Int.toNat (intOf (List.headD (idRow (idV (4 : Int)) i) .any)))) (nat_lit 6), UInt8.ofNat (Int.toNat ((48 : Int) + Prod.fst (cdF (id7 (4 : Int)))))]]) [(0, .cells [.view 1 n (intRow v), .int .i64 (a + (1 : Int) + (1 : Int) + (1 : Int) + (1 : Int) + (1 : Int) + (1 : Int) + (1 : Int))] 28)])) ((True ∧ True) ∧ R (.agg [.str (outF (nextV n (vInt (intRow v)) a (3 : Int))), .str (idF (nextV n (vInt (intRow v)) (a + (1 : Int)) (4 : Int))), .int .i64 ((1440 : Int) + nextV n (vInt (intRow v)) (a + (1 : Int) + (1 : Int)) (4 : Int)), .int .i64 ((43830 : Int) + nextV n (vInt (intRow v)) (a + (1 : Int) + (1 : Int) + (1 : Int)) (100 : Int)), .int .i64 ((1 : Int) + List.getD [(0 : Int), (0 : Int), (0 : Int), (1 : Int), (2 : Int), (3 : Int), (4 : Int)] (Int.toNat (nextV n (vInt (intRow v)) (a + (1 : Int) + (1 : Int) + (1 : Int) + (1 : Int)) (7 : Int))) (0 : Int)), .int .i64 ((100 : Int) + nextV n (vInt (intRow v)) (a + (1 : Int) + (1 : Int) + (1 : Int) + (1 : Int) + (1 : Int)) (4 : Int) * (5 : Int)), .str (idF (nextV n (vInt (intRow v)) (a + (1 : Int) + (1 : Int) + (1 : Int) + (1 : Int) + (1 : Int) + (1 : Int)) (4 : Int)))]) [(0, .cells [.view 1 n (intRow v), .int .i64 (a + (1 : Int) + (1 : Int) + (1 : Int) + (1 : Int) + (1 : Int) + (1 : Int) + (1 : Int))] 28)])) ((True ∧ True) ∧ R (.agg [.str (outF (nextV n (vInt (intRow v)) a (3 : Int))), .str (idF (nextV n (vInt (intRow v)) (a + (1 : Int)) (4 : Int))), .int .i64 ((1440 : Int) + nextV n (vInt (intRow v)) (a + (1 : Int) + (1 : Int)) (4 : Int)), .int .i64 ((43830 : Int) + nextV n (vInt (intRow v)) (a + (1 : Int) + (1 : Int) + (1 : Int)) (100 : Int)), .int .i64 ((1 : Int) + List.getD [(0 : Int), (0 : Int), (0 : Int), (1 : Int), (2 : Int), (3 : Int), (4 : Int)] (Int.toNat (nextV n (vInt (intRow v)) (a + (1 : Int) + (1 : Int) + (1 : Int) + (1 : Int)) (7 : Int))) (0 : Int)), .int .i64 ((100 : Int) + nextV n (vInt (intRow v)) (a + (1 : Int) + (1 : Int) + (1 : Int) + (1 : Int) + (1 : Int)) (4 : Int) * (5 : Int)), .str []]) [(0, .cells [.view 1 n (intRow v), .int .i64 (a + (1 : Int) + (1 : Int) + (1 : Int) + (1 : Int) + (1 : Int) + (1 : Int))] 28)])) (condP (decide ((1 : Int) + List.getD [(0 : Int), (0 : Int), (0 : Int), (1 : Int), (2 : Int), (3 : Int), (4 : Int)] (Int.toNat (nextV n (vInt (intRow v)) (a + (1 : Int) + (1 : Int) + (1 : Int) + (1 : Int)) (7 : Int))) (0 : Int) = (5 : Int))) ((28 = 28 ∧ 1 = 1 ∧ intRow v = intRow (vInt (intRow v)) ∧ (0 : Int) ≤ a + (1 : Int) + (1 : Int) + (1 : Int) + (1 : Int) + (1 : Int) ∧ a + (1 : Int) + (1 : Int) + (1 : Int) + (1 : Int) + (1 : Int) ≤ (4611686018427387000 : Int)) ∧ condP (decide (idF (nextV n (vInt (intRow v)) (a + (1 : Int) + (1 : Int) + (1 : Int) + (1 : Int) + (1 : Int)) (4 : Int)) = idF (nextV n (vInt (intRow v)) (a + (1 : Int)) (4 : Int)))) (True ∧ condP (decide ([(fun (i : Nat) => UInt8.ofNat (Int.toNat (intOf (List.headD (idRow (idV (4 : Int)) i) .any)))) (nat_lit 0), (fun (i : Nat) => UInt8.ofNat (Int.toNat (intOf (List.headD (idRow (idV (4 : Int)) i) .any)))) (nat_lit 1), (fun (i : Nat) => UInt8.ofNat (Int.toNat (intOf (List.headD (idRow (idV (4 : Int)) i) .any)))) (nat_lit 2), (fun (i : Nat) => UInt8.ofNat (Int.toNat (intOf (List.headD (idRow (idV (4 : Int)) i) .any)))) (nat_lit 3), (fun (i : Nat) => UInt8.ofNat (Int.toNat (intOf (List.headD (idRow (idV (4 : Int)) i) .any)))) (nat_lit 4), (fun (i : Nat) => UInt8.ofNat (Int.toNat (intOf (List.headD (idRow (idV (4 : Int)) i) .any)))) (nat_lit 5), (fun (i : Nat) => UInt8.ofNat (Int.toNat (intOf (List.headD (idRow (idV (4 : Int)) i) .any)))) (nat_lit 6), UInt8.ofNat (Int.toNat ((48 : Int) + Prod.fst (cdF (id7 (4 : Int)))))] = idF (nextV n (vInt (intRow v)) (a + (1 : Int)) (4 : Int)))) (True ∧ condP (decide ([(fun (i : Nat) => UInt8.ofNat (Int.toNat (intOf (List.headD (idRow (idV (4 : Int)) i) .any)))) (nat_lit 0), (fun (i : Nat) => UInt8.ofNat (Int.toNat (intOf (List.headD (idRow (idV (4 : Int)) i) .any)))) (nat_lit 1), (fun (i : Nat) => UInt8.ofNat (Int.toNat (intOf (List.headD (idRow (idV (4 : Int)) i) .any)))) (nat_lit 2), (fun (i : Nat) => UInt8.ofNat (Int.toNat (intOf (List.headD (idRow (idV (4 : Int)) i) .any)))) (nat_lit 3), (fun (i : Nat) => UInt8.ofNat (Int.toNat (intOf (List.headD (idRow (idV (4 : Int)) i) .any)))) (nat_lit 4), (fun (i : Nat) => UInt8.ofNat (Int.toNat (intOf (List.headD (idRow (idV (4 : Int)) i) .any)))) (nat_lit 5), (fun (i : Nat) => UInt8.ofNat (Int.toNat (intOf (List.headD (idRow (idV (4 : Int)) i) .any)))) (nat_lit 6), UInt8.ofNat (Int.toNat ((48 : Int) + Prod.fst (cdF (id7 (4 : Int)))))] = idF (nextV n (vInt (intRow v)) (a + (1 : Int)) (4 : Int)))) (True ∧ False) ((True ∧ True) ∧ R (.agg [.str (outF (nextV n (vInt (intRow v)) a (3 : Int))), .str (idF (nextV n (vInt (intRow v)) (a + (1 : Int)) (4 : Int))), .int .i64 ((1440 : Int) + nextV n (vInt (intRow v)) (a + (1 : Int) + (1 : Int)) (4 : Int)), .int .i64 ((43830 : Int) + nextV n (vInt (intRow v)) (a + (1 : Int) + (1 : Int) + (1 : Int)) (100 : Int)), .int .i64 ((1 : Int) + List.getD [(0 : Int), (0 : Int), (0 : Int), (1 : Int), (2 : Int), (3 : Int), (4 : Int)] (Int.toNat (nextV n (vInt (intRow v)) (a + (1 : Int) + (1 : Int) + (1 : Int) + (1 : Int)) (7 : Int))) (0 : Int)), .int .i64 0, .str [(fun (i : Nat) => UInt8.ofNat (Int.toNat (intOf (List.headD (idRow (idV (4 : Int)) i) .any)))) (nat_lit 0), (fun (i : Nat) => UInt8.ofNat (Int.toNat (intOf (List.headD (idRow (idV (4 : Int)) i) .any)))) (nat_lit 1), (fun (i : Nat) => UInt8.ofNat (Int.toNat (intOf (List.headD (idRow (idV (4 : Int)) i) .any)))) (nat_lit 2), (fun (i : Nat) => UInt8.ofNat (Int.toNat (intOf (List.headD (idRow (idV (4 : Int)) i) .any)))) (nat_lit 3), (fun (i : Nat) => UInt8.ofNat (Int.toNat (intOf (List.headD (idRow (idV (4 : Int)) i) .any)))) (nat_lit 4), (fun (i : Nat) => UInt8.ofNat (Int.toNat (intOf (List.headD (idRow (idV (4 : Int)) i) .any)))) (nat_lit 5), (fun (i : Nat) => UInt8.ofNat (Int.toNat (intOf (List.headD (idRow (idV (4 : Int)) i) .any)))) (nat_lit 6), UInt8.ofNat (Int.toNat ((48 : Int) + Prod.fst (cdF (id7 (4 : Int)))))]]) [(0, .cells [.view 1 n (intRow v), .int .i64 (a + (1 : Int) + (1 : Int) + (1 : Int) + (1 : Int) + (1 : Int) + (1 : Int))] 28)])) ((True ∧ True) ∧ R (.agg [.str (outF (nextV n (vInt (intRow v)) a (3 : Int))), .str (idF (nextV n (vInt (intRow v)) (a + (1 : Int)) (4 : Int))), .int .i64 ((1440 : Int) + nextV n (vInt (intRow v)) (a + (1 : Int) + (1 : Int)) (4 : Int)), .int .i64 ((43830 : Int) + nextV n (vInt (intRow v)) (a + (1 : Int) + (1 : Int) + (1 : Int)) (100 : Int)), .int .i64 ((1 : Int) + List.getD [(0 : Int), (0 : Int), (0 : Int), (1 : Int), (2 : Int), (3 : Int), (4 : Int)] (Int.toNat (nextV n (vInt (intRow v)) (a + (1 : Int) + (1 : Int) + (1 : Int) + (1 : Int)) (7 : Int))) (0 : Int)), .int .i64 0, .str [(fun (i : Nat) => UInt8.ofNat (Int.toNat (intOf (List.headD (idRow (idV (4 : Int)) i) .any)))) (nat_lit 0), (fun (i : Nat) => UInt8.ofNat (Int.toNat (intOf (List.headD (idRow (idV (4 : Int)) i) .any)))) (nat_lit 1), (fun (i : Nat) => UInt8.ofNat (Int.toNat (intOf (List.headD (idRow (idV (4 : Int)) i) .any)))) (nat_lit 2), (fun (i : Nat) => UInt8.ofNat (Int.toNat (intOf (List.headD (idRow (idV (4 : Int)) i) .any)))) (nat_lit 3), (fun (i : Nat) => UInt8.ofNat (Int.toNat (intOf (List.headD (idRow (idV (4 : Int)) i) .any)))) (nat_lit 4), (fun (i : Nat) => UInt8.ofNat (Int.toNat (intOf (List.headD (idRow (idV (4 : Int)) i) .any)))) (nat_lit 5), (fun (i : Nat) => UInt8.ofNat (Int.toNat (intOf (List.headD (idRow (idV (4 : Int)) i) .any)))) (nat_lit 6), UInt8.ofNat (Int.toNat ((48 : Int) + Prod.fst (cdF (id7 (4 : Int)))))]]) [(0, .cells [.view 1 n (intRow v), .int .i64 (a + (1 : Int) + (1 : Int) + (1 : Int) + (1 : Int) + (1 : Int) + (1 : Int))] 28)])) ((True ∧ True) ∧ R (.agg [.str (outF (nextV n (vInt (intRow v)) a (3 : Int))), .str (idF (nextV n (vInt (intRow v)) (a + (1 : Int)) (4 : Int))), .int .i64 ((1440 : Int) + nextV n (vInt (intRow v)) (a + (1 : Int) + (1 : Int)) (4 : Int)), .int .i64 ((43830 : Int) + nextV n (vInt (intRow v)) (a + (1 : Int) + (1 : Int) + (1 : Int)) (100 : Int)), .int .i64 ((1 : Int) + List.getD [(0 : Int), (0 : Int), (0 : Int), (1 : Int), (2 : Int), (3 : Int), (4 : Int)] (Int.toNat (nextV n (vInt (intRow v)) (a + (1 : Int) + (1 : Int) + (1 : Int) + (1 : Int)) (7 : Int))) (0 : Int)), .int .i64 0, .str (idF (nextV n (vInt (intRow v)) (a + (1 : Int) + (1 : Int) + (1 : Int) + (1 : Int) + (1 : Int)) (4 : Int)))]) [(0, .cells [.view 1 n (intRow v), .int .i64 (a + (1 : Int) + (1 : Int) + (1 : Int) + (1 : Int) + (1 : Int) + (1 : Int))] 28)])) ((True ∧ True) ∧ R (.agg [.str (outF (nextV n (vInt (intRow v)) a (3 : Int))), .str (idF (nextV n (vInt (intRow v)) (a + (1 : Int)) (4 : Int))), .int .i64 ((1440 : Int) + nextV n (vInt (intRow v)) (a + (1 : Int) + (1 : Int)) (4 : Int)), .int .i64 ((43830 : Int) + nextV n (vInt (intRow v)) (a + (1 : Int) + (1 : Int) + (1 : Int)) (100 : Int)), .int .i64 ((1 : Int) + List.getD [(0 : Int), (0 : Int), (0 : Int), (1 : Int), (2 : Int), (3 : Int), (4 : Int)] (Int.toNat (nextV n (vInt (intRow v)) (a + (1 : Int) + (1 : Int) + (1 : Int) + (1 : Int)) (7 : Int))) (0 : Int)), .int .i64 0, .str []]) [(0, .cells [.view 1 n (intRow v), .int .i64 (a + (1 : Int) + (1 : Int) + (1 : Int) + (1 : Int) + (1 : Int))] 28)]))) (condP (decide ((1 : Int) + List.getD [(0 : Int), (0 : Int), (0 : Int), (1 : Int), (2 : Int), (3 : Int), (4 : Int)] (Int.toNat (nextV n (vInt (intRow v)) (a + (1 : Int) + (1 : Int) + (1 : Int) + (1 : Int)) (7 : Int))) (0 : Int) = (5 : Int))) ((28 = 28 ∧ 1 = 1 ∧ intRow v = intRow (vInt (intRow v)) ∧ (0 : Int) ≤ a + (1 : Int) + (1 : Int) + (1 : Int) + (1 : Int) + (1 : Int) ∧ a + (1 : Int) + (1 : Int) + (1 : Int) + (1 : Int) + (1 : Int) ≤ (4611686018427387000 : Int)) ∧ condP (decide (idF (nextV n (vInt (intRow v)) (a + (1 : Int) + (1 : Int) + (1 : Int) + (1 : Int) + (1 : Int)) (4 : Int)) = idF (nextV n (vInt (intRow v)) (a + (1 : Int)) (4 : Int)))) (True ∧ condP (decide ([(fun (i : Nat) => UInt8.ofNat (Int.toNat (intOf (List.headD (idRow (idV (4 : Int)) i) .any)))) (nat_lit 0), (fun (i : Nat) => UInt8.ofNat (Int.toNat (intOf (List.headD (idRow (idV (4 : Int)) i) .any)))) (nat_lit 1), (fun (i : Nat) => UInt8.ofNat (Int.toNat (intOf (List.headD (idRow (idV (4 : Int)) i) .any)))) (nat_lit 2), (fun (i : Nat) => UInt8.ofNat (Int.toNat (intOf (List.headD (idRow (idV (4 : Int)) i) .any)))) (nat_lit 3), (fun (i : Nat) => UInt8.ofNat (Int.toNat (intOf (List.headD (idRow (idV (4 : Int)) i) .any)))) (nat_lit 4), (fun (i : Nat) => UInt8.ofNat (Int.toNat (intOf (List.headD (idRow (idV (4 : Int)) i) .any)))) (nat_lit 5), (fun (i : Nat) => UInt8.ofNat (Int.toNat (intOf (List.headD (idRow (idV (4 : Int)) i) .any)))) (nat_lit 6), UInt8.ofNat (Int.toNat ((48 : Int) + Prod.fst (cdF (id7 (4 : Int)))))] = idF (nextV n (vInt (intRow v)) (a + (1 : Int)) (4 : Int)))) (True ∧ condP (decide ([(fun (i : Nat) => UInt8.ofNat (Int.toNat (intOf (List.headD (idRow (idV (4 : Int)) i) .any)))) (nat_lit 0), (fun (i : Nat) => UInt8.ofNat (Int.toNat (intOf (List.headD (idRow (idV (4 : Int)) i) .any)))) (nat_lit 1), (fun (i : Nat) => UInt8.ofNat (Int.toNat (intOf (List.headD (idRow (idV (4 : Int)) i) .any)))) (nat_lit 2), (fun (i : Nat) => UInt8.ofNat (Int.toNat (intOf (List.headD (idRow (idV (4 : Int)) i) .any)))) (nat_lit 3), (fun (i : Nat) => UInt8.ofNat (Int.toNat (intOf (List.headD (idRow (idV (4 : Int)) i) .any)))) (nat_lit 4), (fun (i : Nat) => UInt8.ofNat (Int.toNat (intOf (List.headD (idRow (idV (4 : Int)) i) .any)))) (nat_lit 5), (fun (i : Nat) => UInt8.ofNat (Int.toNat (intOf (List.headD (idRow (idV (4 : Int)) i) .any)))) (nat_lit 6), UInt8.ofNat (Int.toNat ((48 : Int) + Prod.fst (cdF (id7 (4 : Int)))))] = idF (nextV n (vInt (intRow v)) (a + (1 : Int)) (4 : Int)))) (True ∧ False) ((True ∧ True) ∧ R (.agg [.str (outF (nextV n (vInt (intRow v)) a (3 : Int))), .str (idF (nextV n (vInt (intRow v)) (a + (1 : Int)) (4 : Int))), .int .i64 ((1440 : Int) + nextV n (vInt (intRow v)) (a + (1 : Int) + (1 : Int)) (4 : Int)), .int .i64 ((43830 : Int) + nextV n (vInt (intRow v)) (a + (1 : Int) + (1 : Int) + (1 : Int)) (100 : Int)), .int .i64 ((1 : Int) + List.getD [(0 : Int), (0 : Int), (0 : Int), (1 : Int), (2 : Int), (3 : Int), (4 : Int)] (Int.toNat (nextV n (vInt (intRow v)) (a + (1 : Int) + (1 : Int) + (1 : Int) + (1 : Int)) (7 : Int))) (0 : Int)), .int .i64 0, .str [(fun (i : Nat) => UInt8.ofNat (Int.toNat (intOf (List.headD (idRow (idV (4 : Int)) i) .any)))) (nat_lit 0), (fun (i : Nat) => UInt8.ofNat (Int.toNat (intOf (List.headD (idRow (idV (4 : Int)) i) .any)))) (nat_lit 1), (fun (i : Nat) => UInt8.ofNat (Int.toNat (intOf (List.headD (idRow (idV (4 : Int)) i) .any)))) (nat_lit 2), (fun (i : Nat) => UInt8.ofNat (Int.toNat (intOf (List.headD (idRow (idV (4 : Int)) i) .any)))) (nat_lit 3), (fun (i : Nat) => UInt8.ofNat (Int.toNat (intOf (List.headD (idRow (idV (4 : Int)) i) .any)))) (nat_lit 4), (fun (i : Nat) => UInt8.ofNat (Int.toNat (intOf (List.headD (idRow (idV (4 : Int)) i) .any)))) (nat_lit 5), (fun (i : Nat) => UInt8.ofNat (Int.toNat (intOf (List.headD (idRow (idV (4 : Int)) i) .any)))) (nat_lit 6), UInt8.ofNat (Int.toNat ((48 : Int) + Prod.fst (cdF (id7 (4 : Int)))))]]) [(0, .cells [.view 1 n (intRow v), .int .i64 (a + (1 : Int) + (1 : Int) + (1 : Int) + (1 : Int) + (1 : Int) + (1 : Int))] 28)])) ((True ∧ True) ∧ R (.agg [.str (outF (nextV n (vInt (intRow v)) a (3 : Int))), .str (idF (nextV n (vInt (intRow v)) (a + (1 : Int)) (4 : Int))), .int .i64 ((1440 : Int) + nextV n (vInt (intRow v)) (a + (1 : Int) + (1 : Int)) (4 : Int)), .int .i64 ((43830 : Int) + nextV n (vInt (intRow v)) (a + (1 : Int) + (1 : Int) + (1 : Int)) (100 : Int)), .int .i64 ((1 : Int) + List.getD [(0 : Int), (0 : Int), (0 : Int), (1 : Int), (2 : Int), (3 : Int), (4 : Int)] (Int.toNat (nextV n (vInt (intRow v)) (a + (1 : Int) + (1 : Int) + (1 : Int) + (1 : Int)) (7 : Int))) (0 : Int)), .int .i64 0, .str [(fun (i : Nat) => UInt8.ofNat (Int.toNat (intOf (List.headD (idRow (idV (4 : Int)) i) .any)))) (nat_lit 0), (fun (i : Nat) => UInt8.ofNat (Int.toNat (intOf (List.headD (idRow (idV (4 : Int)) i) .any)))) (nat_lit 1), (fun (i : Nat) => UInt8.ofNat (Int.toNat (intOf (List.headD (idRow (idV (4 : Int)) i) .any)))) (nat_lit 2), (fun (i : Nat) => UInt8.ofNat (Int.toNat (intOf (List.headD (idRow (idV (4 : Int)) i) .any)))) (nat_lit 3), (fun (i : Nat) => UInt8.ofNat (Int.toNat (intOf (List.headD (idRow (idV (4 : Int)) i) .any)))) (nat_lit 4), (fun (i : Nat) => UInt8.ofNat (Int.toNat (intOf (List.headD (idRow (idV (4 : Int)) i) .any)))) (nat_lit 5), (fun (i : Nat) => UInt8.ofNat (Int.toNat (intOf (List.headD (idRow (idV (4 : Int)) i) .any)))) (nat_lit 6), UInt8.ofNat (Int.toNat ((48 : Int) + Prod.fst (cdF (id7 (4 : Int)))))]]) [(0, .cells [.view 1 n (intRow v), .int .i64 (a + (1 : Int) + (1 : Int) + (1 : Int) + (1 : Int) + (1 : Int) + (1 : Int))] 28)])) ((True ∧ True) ∧ R (.agg [.str (outF (nextV n (vInt (intRow v)) a (3 : Int))), .str (idF (nextV n (vInt (intRow v)) (a + (1 : Int)) (4 : Int))), .int .i64 ((1440 : Int) + nextV n (vInt (intRow v)) (a + (1 : Int) + (1 : Int)) (4 : Int)), .int .i64 ((43830 : Int) + nextV n (vInt (intRow v)) (a + (1 : Int) + (1 : Int) + (1 : Int)) (100 : Int)), .int .i64 ((1 : Int) + List.getD [(0 : Int), (0 : Int), (0 : Int), (1 : Int), (2 : Int), (3 : Int), (4 : Int)] (Int.toNat (nextV n (vInt (intRow v)) (a + (1 : Int) + (1 : Int) + (1 : Int) + (1 : Int)) (7 : Int))) (0 : Int)), .int .i64 0, .str (idF (nextV n (vInt (intRow v)) (a + (1 : Int) + (1 : Int) + (1 : Int) + (1 : Int) + (1 : Int)) (4 : Int)))]) [(0, .cells [.view 1 n (intRow v), .int .i64 (a + (1 : Int) + (1 : Int) + (1 : Int) + (1 : Int) + (1 : Int) + (1 : Int))] 28)])) ((True ∧ True) ∧ R (.agg [.str (outF (nextV n (vInt (intRow v)) a (3 : Int))), .str (idF (nextV n (vInt (intRow v)) (a + (1 : Int)) (4 : Int))), .int .i64 ((1440 : Int) + nextV n (vInt (intRow v)) (a + (1 : Int) + (1 : Int)) (4 : Int)), .int .i64 ((43830 : Int) + nextV n (vInt (intRow v)) (a + (1 : Int) + (1 : Int) + (1 : Int)) (100 : Int)), .int .i64 ((1 : Int) + List.getD [(0 : Int), (0 : Int), (0 : Int), (1 : Int), (2 : Int), (3 : Int), (4 : Int)] (Int.toNat (nextV n (vInt (intRow v)) (a + (1 : Int) + (1 : Int) + (1 : Int) + (1 : Int)) (7 : Int))) (0 : Int)), .int .i64 0, .str []]) [(0, .cells [.view 1 n (intRow v), .int .i64 (a + (1 : Int) + (1 : Int) + (1 : Int) + (1 : Int) + (1 : Int))] 28)]))) := by kernel_rfl
theorem nf_mmsg (n : Nat) (v : Nat → Int) (a : Int) (R : AV → List (Nat × AObj) → Prop) : wpFn te [(27, .det S_next), (47, .det S_outlet), (48, .det S_product), (44, .det S_device), (45, .rel R_visit)] [] 0 Tryz.f46 [.ptr 0 0] [.cells [.view 1 n (intRow v), .int .i64 a] 28] R = ((28 = 28 ∧ 1 = 1 ∧ intRow v = intRow (vInt (intRow v)) ∧ (0 : Int) ≤ a ∧ a ≤ (4611686018427387000 : Int)) ∧ (28 = 28 ∧ 1 = 1 ∧ intRow v = intRow (vInt (intRow v)) ∧ ((1 : Int) ≤ (9 : Int) ∧ (9 : Int) ≤ (1000000 : Int)) ∧ (0 : Int) ≤ a + (1 : Int) ∧ a + (1 : Int) ≤ (4611686018427387904 : Int)) ∧ inR .i64 ((1 : Int) + nextV n (vInt (intRow v)) (a + (1 : Int)) (9 : Int)) ∧ (28 = 28 ∧ 1 = 1 ∧ intRow v = intRow (vInt (intRow v)) ∧ ((1 : Int) ≤ (5 : Int) ∧ (5 : Int) ≤ (1000000 : Int)) ∧ (0 : Int) ≤ a + (1 : Int) + (1 : Int) ∧ a + (1 : Int) + (1 : Int) ≤ (4611686018427387904 : Int)) ∧ condP (decide (nextV n (vInt (intRow v)) (a + (1 : Int) + (1 : Int)) (5 : Int) = (0 : Int))) ((28 = 28 ∧ 1 = 1 ∧ intRow v = intRow (vInt (intRow v)) ∧ (0 : Int) ≤ a + (1 : Int) + (1 : Int) + (1 : Int) ∧ a + (1 : Int) + (1 : Int) + (1 : Int) ≤ (4611686018427387000 : Int)) ∧ (28 = 28 ∧ 1 = 1 ∧ intRow v = intRow (vInt (intRow v)) ∧ (0 : Int) ≤ a + (1 : Int) + (1 : Int) + (1 : Int) + (1 : Int) ∧ a + (1 : Int) + (1 : Int) + (1 : Int) + (1 : Int) ≤ (4611686018427387000 : Int)) ∧ (28 = 28 ∧ 1 = 1 ∧ intRow v = intRow (vInt (intRow v)) ∧ ((1 : Int) ≤ (4 : Int) ∧ (4 : Int) ≤ (1000000 : Int)) ∧ (0 : Int) ≤ a + (1 : Int) + (1 : Int) + (1 : Int) + (1 : Int) + (1 : Int) ∧ a + (1 : Int) + (1 : Int) + (1 : Int) + (1 : Int) + (1 : Int) ≤ (4611686018427387904 : Int)) ∧ inR .i64 ((1440 : Int) + nextV n (vInt (intRow v)) (a + (1 : Int) + (1 : Int) + (1 : Int) + (1 : Int) + (1 : Int)) (4 : Int)) ∧ (28 = 28 ∧ 1 = 1 ∧ intRow v = intRow (vInt (intRow v)) ∧ (0 : Int) ≤ a + (1 : Int) + (1 : Int) + (1 : Int) + (1 : Int) + (1 : Int) + (1 : Int) ∧ a + (1 : Int) + (1 : Int) + (1 : Int) + (1 : Int) + (1 : Int) + (1 : Int) ≤ (4611686018427387000 : Int)) ∧ (28 = 28 ∧ 1 = 1 ∧ intRow v = intRow (vInt (intRow v)) ∧ ((1 : Int) ≤ (9 : Int) ∧ (9 : Int) ≤ (1000000 : Int)) ∧ (0 : Int) ≤ a + (1 : Int) + (1 : Int) + (1 : Int) + (1 : Int) + (1 : Int) + (1 : Int) + (1 : Int) ∧ a + (1 : Int) + (1 : Int) + (1 : Int) + (1 : Int) + (1 : Int) + (1 : Int) + (1 : Int) ≤ (4611686018427387904 : Int)) ∧ inR .i64 ((1 : Int) + nextV n (vInt (intRow v)) (a + (1 : Int) + (1 : Int) + (1 : Int) + (1 : Int) + (1 : Int) + (1 : Int) + (1 : Int)) (9 : Int)) ∧ (True ∧ True) ∧ R (.agg [.str (devF (nextV n (vInt (intRow v)) a (3 : Int))), .int .i64 ((1 : Int) + nextV n (vInt (intRow v)) (a + (1 : Int)) (9 : Int)), .int .i64 2, .str [], .str [], .int .i64 0, .int .i64 0, .int .i64 0, .int .i64 0, .str [], .str (outF (nextV n (vInt (intRow v)) (a + (1 : Int) + (1 : Int) + (1 : Int)) (3 : Int))), .str (idF (nextV n (vInt (intRow v)) (a + (1 : Int) + (1 : Int) + (1 : Int) + (1 : Int)) (4 : Int))), .int .i64 ((1440 : Int) + nextV n (vInt (intRow v)) (a + (1 : Int) + (1 : Int) + (1 : Int) + (1 : Int) + (1 : Int)) (4 : Int)), .str (devF (nextV n (vInt (intRow v)) (a + (1 : Int) + (1 : Int) + (1 : Int) + (1 : Int) + (1 : Int) + (1 : Int)) (3 : Int))), .int .i64 ((1 : Int) + nextV n (vInt (intRow v)) (a + (1 : Int) + (1 : Int) + (1 : Int) + (1 : Int) + (1 : Int) + (1 : Int) + (1 : Int)) (9 : Int))]) [(0, .cells [.view 1 n (intRow v), .int .i64 (a + (1 : Int) + (1 : Int) + (1 : Int) + (1 : Int) + (1 : Int) + (1 : Int) + (1 : Int) + (1 : Int))] 28)]) (28 = 28 ∧ 1 = 1 ∧ intRow v = intRow (vInt (intRow v)) ∧ ((0 : Int) ≤ a + (1 : Int) + (1 : Int) + (1 : Int) ∧ a + (1 : Int) + (1 : Int) + (1 : Int) ≤ (4611686018427386000 : Int)) ∧ ∀ (x : VT) (a' : Int), VT.Made x → a + (1 : Int) + (1 : Int) + (1 : Int) ≤ a' ∧ a' ≤ a + (1 : Int) + (1 : Int) + (1 : Int) + (7 : Int) → (True ∧ True) ∧ R (.agg [.str (devF (nextV n (vInt (intRow v)) a (3 : Int))), .int .i64 ((1 : Int) + nextV n (vInt (intRow v)) (a + (1 : Int)) (9 : Int)), .int .i64 1, .str (VT.o x), .str (VT.p x), .int .i64 (VT.per x), .int .i64 (VT.day x), .int .i64 (VT.st x), .int .i64 (VT.pr x), .str (VT.rep x), .str [], .str [], .int .i64 0, .str [], .int .i64 0]) [(0, .cells [.view 1 n (intRow v), .int .i64 a'] 28)])) := by kernel_rfl

theorem device_ok (hP : C.P = Tryz.prog) : SpecOK C 44 S_device := by
  rintro args objs U Os vc h hvc
  unfold S_device at h
  split at h <;> simp only [Option.some.injEq, Prod.mk.injEq, reduceCtorEq] at h
  rename_i sz n f a t
  obtain ⟨rfl, rfl, rfl⟩ := h
  obtain ⟨rfl, rfl, hf, h1, h2⟩ := hvc
  rw [hf]
  generalize vInt f = v
  have hw : vInt (intRow v) = v := rfl
  refine SpecOK.wp0 (prg hP) [(27, .det S_next)] 0 (.cons (next_ok hP) .nil) (hP ▸ Tryz.func44) rfl rfl rfl ?_
  rw [nf_device]
  have r := nextV_range (show (1 : Int) ≤ 3 by omega) n v a
  exact ⟨⟨by omega, rfl, by omega⟩, ⟨rfl, rfl, rfl, ⟨by omega, by omega⟩, by omega, by omega⟩, ⟨r.1, r.2⟩, ⟨by rw [hw]; omega, rfl⟩, rfl, rfl⟩

theorem stF : ∀ i : Nat, i < 7 → 1 ≤ 1 + List.getD [(0 : Int), 0, 0, 1, 2, 3, 4] i 0 ∧ 1 + List.getD [(0 : Int), 0, 0, 1, 2, 3, 4] i 0 ≤ 5 := by decide
theorem idF4i {x : Int} (h : 0 ≤ x ∧ x < 4) : ¬ idF 4 = idF x := by
  have := idF4 x.toNat (by omega)
  rwa [show ((x.toNat : Nat) : Int) = x by omega] at this
theorem vis_made {o p : List UInt8} {per day st pr : Int} {rep : List UInt8} (ho : nameF o = true) (hp : validIDF p = true) (hper : 0 ≤ per ∧ per ≤ 5999) (hday : 0 ≤ day ∧ day ≤ 182620)
    (h : ((st = 1 ∨ st = 2) ∧ (1 ≤ pr ∧ pr ≤ 1099511627776) ∧ rep = []) ∨ ((st = 3 ∨ st = 4) ∧ pr = 0 ∧ rep = []) ∨ (st = 5 ∧ (1 ≤ pr ∧ pr ≤ 1099511627776) ∧ validIDF rep = true ∧ ¬ rep = p)) : visF ⟨o, p, per, day, st, pr, rep⟩ = true := by
  unfold visF slotF
  dsimp only
  rw [ho, hp, decide_eq_true hper.1, decide_eq_true hper.2, decide_eq_true hday.1, decide_eq_true hday.2]
  rcases h with ⟨q | q, ⟨h1, h2⟩, h3⟩ | ⟨q | q, h1, h2⟩ | ⟨q, ⟨h1, h2⟩, h3, h4⟩
  · subst q; subst h3; rw [decide_eq_true h1, decide_eq_true h2]; rfl
  · subst q; subst h3; rw [decide_eq_true h1, decide_eq_true h2]; rfl
  · subst q; subst h1; subst h2; rfl
  · subst q; subst h1; subst h2; rfl
  · subst q; rw [decide_eq_true h1, decide_eq_true h2, h3, decide_eq_false h4]; rfl
theorem msg_madeV {dev : List UInt8} {seq : Int} {x : VT} (hd : nameF dev = true) (hs : 1 ≤ seq ∧ seq ≤ 1048576) (hx : visF x = true) : msgF ⟨dev, seq, 1, x, ⟨[], [], 0, [], 0⟩⟩ = 0 := by
  unfold msgF numF
  dsimp only
  rw [hd, hx, decide_eq_true hs.1, decide_eq_true hs.2]; rfl
theorem msg_madeD {dev : List UInt8} {seq : Int} {o p : List UInt8} {per : Int} {dd : List UInt8} {num : Int} (hd : nameF dev = true) (hs : 1 ≤ seq ∧ seq ≤ 1048576) (h : slotF o p per = true) (h' : nameF dd = true) (hn : 1 ≤ num ∧ num ≤ 1048576) :
    msgF ⟨dev, seq, 2, ⟨[], [], 0, 0, 0, 0, []⟩, ⟨o, p, per, dd, num⟩⟩ = 0 := by
  unfold msgF numF
  dsimp only
  rw [hd, h, h', decide_eq_true hs.1, decide_eq_true hs.2, decide_eq_true hn.1, decide_eq_true hn.2]; rfl
theorem slot_made {o p : List UInt8} {per : Int} (ho : nameF o = true) (hp : validIDF p = true) (hper : 0 ≤ per ∧ per ≤ 5999) : slotF o p per = true := by
  unfold slotF
  rw [ho, hp, decide_eq_true hper.1, decide_eq_true hper.2]; rfl

theorem mvisit_ok (hP : C.P = Tryz.prog) : RSpecOK C 45 R_visit := by
  rintro args objs R h
  unfold R_visit at h
  split at h
  · rename_i sz n f a t
    obtain ⟨rfl, rfl, hf, ha, hR⟩ := h
    rw [hf] at hR ⊢
    generalize vInt f = v at *
    have hw : vInt (intRow v) = v := rfl
    refine RSpecOK.wpL (prg hP) [(27, .det S_next), (47, .det S_outlet), (48, .det S_product), (43, .det S_id)] [] 3 (.cons (next_ok hP) (.cons (outlet_ok hP) (.cons (tproduct_ok hP) (.cons (id_ok hP) .nil)))) (hP ▸ Tryz.func45) rfl rfl rfl [] (by kernel_rfl) trivial ?_
    rw [nf_mvisit, hw]
    have r1 := nextV_range (show (1 : Int) ≤ 3 by omega) n v a
    have r2 := nextV_range (show (1 : Int) ≤ 4 by omega) n v (a + 1)
    have r3 := nextV_range (show (1 : Int) ≤ 4 by omega) n v (a + 1 + 1)
    have r4 := nextV_range (show (1 : Int) ≤ 100 by omega) n v (a + 1 + 1 + 1)
    have r5 := nextV_range (show (1 : Int) ≤ 7 by omega) n v (a + 1 + 1 + 1 + 1)
    have r6 := nextV_range (show (1 : Int) ≤ 4 by omega) n v (a + 1 + 1 + 1 + 1 + 1)
    have hst := stF (nextV n v (a + 1 + 1 + 1 + 1) 7).toNat (by omega)
    have ho := outF_ok (nextV n v a 3).toNat (by omega)
    have key : ∀ (st pr : Int) (rep : List UInt8) (a' : Int), (((st = 1 ∨ st = 2) ∧ (1 ≤ pr ∧ pr ≤ 1099511627776) ∧ rep = []) ∨ ((st = 3 ∨ st = 4) ∧ pr = 0 ∧ rep = []) ∨ (st = 5 ∧ (1 ≤ pr ∧ pr ≤ 1099511627776) ∧ validIDF rep = true ∧ ¬ rep = idF (nextV n v (a + 1) 4))) → (a ≤ a' ∧ a' ≤ a + 7) →
        R (.agg [.str (outF (nextV n v a 3)), .str (idF (nextV n v (a + 1) 4)), .int .i64 (1440 + nextV n v (a + 1 + 1) 4), .int .i64 (43830 + nextV n v (a + 1 + 1 + 1) 100), .int .i64 st, .int .i64 pr, .str rep]) [(0, .cells [.view 1 n (intRow v), .int .i64 a'] 28)] := fun st pr rep a' h1 h2 =>
      hR ⟨outF (nextV n v a 3), idF (nextV n v (a + 1) 4), 1440 + nextV n v (a + 1 + 1) 4, 43830 + nextV n v (a + 1 + 1 + 1) 100, st, pr, rep⟩ a' ⟨vis_made ho.1 (idF_valid _) (by omega) (by omega) h1, ho.2⟩ h2
    refine ⟨⟨rfl, rfl, rfl, by omega, by omega⟩, ⟨rfl, rfl, rfl, by omega, by omega⟩, ⟨rfl, rfl, rfl, ⟨by omega, by omega⟩, by omega, by omega⟩, by simp only [inR]; omega, ⟨rfl, rfl, rfl, ⟨by omega, by omega⟩, by omega, by omega⟩, by simp only [inR]; omega, ⟨by omega, rfl, by omega⟩, ⟨rfl, rfl, rfl, ⟨by omega, by omega⟩, by omega, by omega⟩, ⟨by omega, by omega⟩, ⟨by omega, rfl⟩, ?_⟩
    generalize 1 + List.getD [(0 : Int), 0, 0, 1, 2, 3, 4] (nextV n v (a + 1 + 1 + 1 + 1) 7).toNat 0 = st at *
    refine ⟨by simp only [inR]; omega, condP_ndec (fun s3 => condP_ndec (fun s4 => ⟨⟨rfl, rfl, rfl, ⟨by omega, by omega⟩, by omega, by omega⟩, by simp only [inR]; omega, by simp only [inR]; omega, condP_dec (fun s5 => ⟨⟨rfl, rfl, rfl, by omega, by omega⟩, condP_dec (fun q => ⟨trivial, condP_dec (fun q' => absurd q' (idF4i r2)) (fun q' => ⟨⟨trivial, trivial⟩, ?_⟩)⟩) (fun q => ⟨⟨trivial, trivial⟩, ?_⟩)⟩) (fun s5 => ⟨⟨trivial, trivial⟩, ?_⟩)⟩)
      (fun s4 => condP_dec (fun s5 => absurd s5 (by omega)) (fun s5 => ⟨⟨trivial, trivial⟩, ?_⟩))) (fun s3 => condP_dec (fun s5 => absurd s5 (by omega)) (fun s5 => ⟨⟨trivial, trivial⟩, ?_⟩))⟩
    · exact key st _ (idF 4) _ (.inr (.inr ⟨s5, by omega, idF_valid _, idF4i r2⟩)) (by omega)
    · exact key st _ _ _ (.inr (.inr ⟨s5, by omega, idF_valid _, q⟩)) (by omega)
    · exact key st _ _ _ (.inl ⟨by omega, by omega, rfl⟩) (by omega)
    · exact key st _ _ _ (.inr (.inl ⟨by omega, rfl, rfl⟩)) (by omega)
    · exact key st _ _ _ (.inr (.inl ⟨by omega, rfl, rfl⟩)) (by omega)
  · exact h.elim
theorem mmsg_ok (hP : C.P = Tryz.prog) : RSpecOK C 46 R_mmsg := by
  rintro args objs R h
  unfold R_mmsg at h
  split at h
  · rename_i sz n f a t
    obtain ⟨rfl, rfl, hf, ha, hR⟩ := h
    rw [hf] at hR ⊢
    generalize vInt f = v at *
    have hw : vInt (intRow v) = v := rfl
    refine RSpecOK.wpL (prg hP) [(27, .det S_next), (47, .det S_outlet), (48, .det S_product), (44, .det S_device), (45, .rel R_visit)] [] 0 (.cons (next_ok hP) (.cons (outlet_ok hP) (.cons (tproduct_ok hP) (.cons (device_ok hP) (.cons (mvisit_ok hP) .nil))))) (hP ▸ Tryz.func46) rfl rfl rfl [] (by kernel_rfl) trivial ?_
    rw [nf_mmsg, hw]
    have r1 := nextV_range (show (1 : Int) ≤ 3 by omega) n v a
    have r2 := nextV_range (show (1 : Int) ≤ 9 by omega) n v (a + 1)
    have r4 := nextV_range (show (1 : Int) ≤ 3 by omega) n v (a + 1 + 1 + 1)
    have r6 := nextV_range (show (1 : Int) ≤ 4 by omega) n v (a + 1 + 1 + 1 + 1 + 1)
    have r7 := nextV_range (show (1 : Int) ≤ 3 by omega) n v (a + 1 + 1 + 1 + 1 + 1 + 1)
    have r8 := nextV_range (show (1 : Int) ≤ 9 by omega) n v (a + 1 + 1 + 1 + 1 + 1 + 1 + 1)
    have hd := devF_ok (nextV n v a 3).toNat (by omega)
    have ho := outF_ok (nextV n v (a + 1 + 1 + 1) 3).toNat (by omega)
    have hd' := devF_ok (nextV n v (a + 1 + 1 + 1 + 1 + 1 + 1) 3).toNat (by omega)
    refine ⟨⟨rfl, rfl, rfl, by omega, by omega⟩, ⟨rfl, rfl, rfl, ⟨by omega, by omega⟩, by omega, by omega⟩, by simp only [inR]; omega, ⟨rfl, rfl, rfl, ⟨by omega, by omega⟩, by omega, by omega⟩, condP_dec (fun q => ⟨⟨rfl, rfl, rfl, by omega, by omega⟩, ⟨rfl, rfl, rfl, by omega, by omega⟩, ⟨rfl, rfl, rfl, ⟨by omega, by omega⟩, by omega, by omega⟩, by simp only [inR]; omega, ⟨rfl, rfl, rfl, by omega, by omega⟩, ⟨rfl, rfl, rfl, ⟨by omega, by omega⟩, by omega, by omega⟩, by simp only [inR]; omega, ⟨trivial, trivial⟩, ?_⟩)
      (fun q => ⟨rfl, rfl, rfl, ⟨by omega, by omega⟩, fun x a' hx ha' => ⟨⟨trivial, trivial⟩, ?_⟩⟩)⟩
    · exact hR ⟨devF (nextV n v a 3), 1 + nextV n v (a + 1) 9, 2, ⟨[], [], 0, 0, 0, 0, []⟩, ⟨outF (nextV n v (a + 1 + 1 + 1) 3), idF (nextV n v (a + 1 + 1 + 1 + 1) 4), 1440 + nextV n v (a + 1 + 1 + 1 + 1 + 1) 4, devF (nextV n v (a + 1 + 1 + 1 + 1 + 1 + 1) 3), 1 + nextV n v (a + 1 + 1 + 1 + 1 + 1 + 1 + 1) 9⟩⟩ _
        ⟨msg_madeD hd.1 (by omega) (slot_made ho.1 (idF_valid _) (by omega)) hd'.1 (by omega), hd.2, Nat.zero_le _, ho.2, hd'.2⟩ (by omega)
    · exact hR ⟨devF (nextV n v a 3), 1 + nextV n v (a + 1) 9, 1, x, ⟨[], [], 0, [], 0⟩⟩ a' ⟨msg_madeV hd.1 (by omega) hx.ok, hd.2, hx.o, Nat.zero_le _, Nat.zero_le _⟩ (by omega)
  · exact h.elim
end Go.Eng
/- The weakest precondition as a function: a region that draws its order, each order by itself. -/
namespace Go.Eng
open Go.RowKit

def allP {α : Type} (p : α → Prop) : List α → Prop
  | [] => True
  | [x] => p x
  | x :: l => p x ∧ allP p l
theorem allP_mem {α : Type} {p : α → Prop} : ∀ {l : List α}, allP p l → ∀ x ∈ l, p x
  | [], _, x, hx => by cases hx
  | [y], h, x, hx => by obtain rfl := List.mem_singleton.1 hx; exact h
  | y :: z :: l, h, x, hx => by
    obtain ⟨h1, h2⟩ := h
    rcases List.mem_cons.1 hx with rfl | hx
    · exact h1
    · exact allP_mem h2 x hx
def depsOK (done : List Nat) : List Edge → Bool
  | [] => true
  | e :: l => match Region.binds .any e with
    | true => match hasN done e.on with
      | true => depsOK done l
      | false => false
    | false => depsOK done l
/-- The operations that may come next. -/
def rdyL (done : List Nat) : Nat → List Oper → List (Nat × Oper)
  | _, [] => []
  | i, o :: l => match hasN done i with
    | true => rdyL done (i + 1) l
    | false => match depsOK done o.after.toList with
      | true => (i, o) :: rdyL done (i + 1) l
      | false => rdyL done (i + 1) l
theorem depsOK_iff {done : List Nat} : ∀ {l : List Edge}, depsOK done l = true ↔ ∀ e ∈ l, Region.binds .any e = true → e.on ∈ done
  | [] => by simp [depsOK]
  | e :: l => by
    unfold depsOK
    have ih := depsOK_iff (done := done) (l := l)
    cases hb : Region.binds .any e with
    | true =>
      cases hh : hasN done e.on with
      | true =>
        dsimp only
        rw [ih]
        constructor
        · intro h e' he hb'
          rcases List.mem_cons.1 he with rfl | he
          · exact (hasN_iff _ _).1 hh
          · exact h e' he hb'
        · exact fun h e' he hb' => h e' (List.mem_cons_of_mem _ he) hb'
      | false =>
        dsimp only
        refine ⟨fun h => (by cases h), fun h => ?_⟩
        rw [(hasN_iff _ _).2 (h e (List.mem_cons_self ..) hb)] at hh; cases hh
    | false =>
      dsimp only
      rw [ih]
      constructor
      · intro h e' he hb'
        rcases List.mem_cons.1 he with rfl | he
        · rw [hb] at hb'; cases hb'
        · exact h e' he hb'
      · exact fun h e' he hb' => h e' (List.mem_cons_of_mem _ he) hb'
theorem rdyL_mem {done : List Nat} : ∀ {l : List Oper} {j i : Nat} {o : Oper}, (i, o) ∈ rdyL done j l ↔ ∃ i', i = j + i' ∧ l[i']? = some o ∧ i ∉ done ∧ ∀ e ∈ o.after.toList, Region.binds .any e = true → e.on ∈ done
  | [], j, i, o => by simp [rdyL]
  | o' :: l, j, i, o => by
    have ih := rdyL_mem (done := done) (l := l) (j := j + 1) (i := i) (o := o)
    have tail : (∃ i', i = j + 1 + i' ∧ l[i']? = some o ∧ i ∉ done ∧ ∀ e ∈ o.after.toList, Region.binds .any e = true → e.on ∈ done) → ∃ i', i = j + i' ∧ (o' :: l)[i']? = some o ∧ i ∉ done ∧ ∀ e ∈ o.after.toList, Region.binds .any e = true → e.on ∈ done := by
      rintro ⟨i', h1, h2, h3⟩
      exact ⟨i' + 1, by omega, by simpa using h2, h3⟩
    have back : (∃ i', i = j + i' ∧ (o' :: l)[i']? = some o ∧ i ∉ done ∧ ∀ e ∈ o.after.toList, Region.binds .any e = true → e.on ∈ done) → (i = j ∧ o = o' ∧ j ∉ done ∧ ∀ e ∈ o'.after.toList, Region.binds .any e = true → e.on ∈ done) ∨ ∃ i', i = j + 1 + i' ∧ l[i']? = some o ∧ i ∉ done ∧ ∀ e ∈ o.after.toList, Region.binds .any e = true → e.on ∈ done := by
      rintro ⟨i', h1, h2, h3, h4⟩
      cases i' with
      | zero =>
        simp only [List.getElem?_cons_zero, Option.some.injEq] at h2
        subst h2
        obtain rfl : i = j := by omega
        exact .inl ⟨rfl, rfl, h3, h4⟩
      | succ i' => exact .inr ⟨i', by omega, by simpa using h2, h3, h4⟩
    unfold rdyL
    cases hh : hasN done j with
    | true =>
      dsimp only
      rw [ih]
      refine ⟨tail, fun h => ?_⟩
      rcases back h with ⟨_, _, h3, _⟩ | h
      · exact absurd ((hasN_iff _ _).1 hh) h3
      · exact h
    | false =>
      cases hd : depsOK done o'.after.toList with
      | true =>
        dsimp only
        rw [List.mem_cons, ih, Prod.mk.injEq]
        constructor
        · rintro (⟨rfl, rfl⟩ | h)
          · refine ⟨0, rfl, rfl, fun q => ?_, depsOK_iff.1 hd⟩
            rw [(hasN_iff _ _).2 q] at hh; cases hh
          · exact tail h
        · intro h
          rcases back h with ⟨h1, h2, _⟩ | h
          · exact .inl ⟨h1, h2⟩
          · exact .inr h
      | false =>
        dsimp only
        rw [ih]
        refine ⟨tail, fun h => ?_⟩
        rcases back h with ⟨_, _, _, h4⟩ | h
        · rw [depsOK_iff.2 h4] at hd; cases hd
        · exact h
/-- Every order of the operations that the region may draw. -/
def wpEach (G : Env) (opl : List Oper) (Q : St → Prop) : Nat → List Nat → KT
  | 0, done, T, O, nx => match rdyL done 0 opl with
    | [] => Q ⟨T, O, nx, []⟩
    | _ :: _ => False
  | fuel + 1, done, T, O, nx => match rdyL done 0 opl with
    | [] => Q ⟨T, O, nx, []⟩
    | p0 :: l => allP (fun p : Nat × Oper => match p.2.guard with
      | none => wp1 G p.2 T O nx (wpEach G opl Q fuel (p.1 :: done))
      | some _ => False) (p0 :: l)
def onlyN (K : St → Prop) (Q : Exit → St → Prop) : Exit → St → Prop
  | .normal, s => K s
  | e, s => Q e s
theorem wp_both {P : Program} {o : Oper} {a : Act} {w : World} {K K' : Act → World → Prop} {Q Q' : Exit → Act → World → Prop} (h : ∀ a w, K a w → K' a w) (hq : ∀ e a w, e ≠ .normal → Q e a w → Q' e a w) (hh : o.wp P a w K Q) : o.wp P a w K' Q' := by
  unfold Oper.wp at *
  generalize (execOp a.eval o).run P w = r at *
  cases r with
  | ok n w' =>
    cases n <;> simp only [Oper.upon] at hh ⊢ <;>
      first
        | exact h _ _ hh
        | exact hh.elim
        | exact Calls.mono hh (fun e w'' he => by
            cases e with
            | returned v => exact h _ _ he
            | panicked c => exact hq _ _ _ (by simp) he
            | outgrown => obtain ⟨a', w3, h3⟩ := he; exact ⟨a', w3, hq _ _ _ (by simp) h3⟩)
        | exact Rows.mono hh (fun _ _ he => h _ _ he)
  | halt x w' => cases x <;> simp only [Oper.upon] at hh ⊢ <;> first | exact hq _ _ _ (by simp) hh | exact hh.elim
theorem ready_rdy {opl : List Oper} {done : List Nat} {listed : Array Bool} (hsz : listed.size = opl.length) (hl : ∀ i, listed.getD i false = true ↔ i ∈ done) (i : Nat) : i ∈ Region.ready .any opl.toArray listed ↔ ∃ o, opl[i]? = some o ∧ (i, o) ∈ rdyL done 0 opl := by
  rw [mem_ready]
  have e : ∀ o, opl[i]? = some o → (listed.getD i true = false ↔ i ∉ done) := fun o ho => by
    have hi : i < listed.size := by rw [hsz]; exact (List.getElem?_eq_some_iff.1 ho).1
    rw [getD_eq hi true false, ← hl]
    cases listed.getD i false <;> simp
  constructor
  · rintro ⟨h0, o, ho, h⟩
    have ho : opl[i]? = some o := by simpa using ho
    exact ⟨o, ho, rdyL_mem.2 ⟨i, by omega, ho, (e o ho).1 h0, fun x hx hb => (hl _).1 (h x (by simpa using hx) hb)⟩⟩
  · rintro ⟨o, ho, h⟩
    obtain ⟨i', h1, h2, h3, h4⟩ := rdyL_mem.1 h
    exact ⟨(e o ho).2 h3, o, by simpa using ho, fun x hx hb => (hl _).2 (h4 x (by simpa using hx) hb)⟩
theorem wpEach_ok {C : Ctx} {G : Env} (hG : EnvOK C G) {m : Nat} {opl : List Oper} {Q : Exit → St → Prop} {E : Ent} (hE : E.m = m) : ∀ (fuel : Nat) (done : List Nat) (listed : Array Bool) (T : List (Nat × AV)) (O : List (Nat × AObj)) (nx : Nat) (bs : Nat → Option Hd) (a : Act) (w : World),
    listed.size = opl.length → (∀ i, listed.getD i false = true ↔ i ∈ done) → wpEach G opl (Q .normal) fuel done T O nx → RepS C E G.N ⟨T, O, nx, []⟩ bs a w → wpAny C.P .any opl.toArray (QC C E G.N Q) fuel listed a w
  | 0, done, listed, T, O, nx, bs, a, w, hsz, hl, h, hr => by
    unfold wpEach at h
    unfold wpAny
    split at h
    · rename_i hr0
      refine ⟨List.eq_nil_iff_forall_not_mem.2 fun i hi => ?_, _, bs, h, hr⟩
      obtain ⟨o, _, ho⟩ := (ready_rdy hsz hl i).1 hi
      rw [hr0] at ho; cases ho
    · exact h.elim
  | fuel + 1, done, listed, T, O, nx, bs, a, w, hsz, hl, h, hr => by
    unfold wpEach at h
    unfold wpAny
    split at h
    · rename_i hr0
      refine ⟨fun _ => ⟨_, bs, h, hr⟩, fun i hi => ?_⟩
      obtain ⟨o, _, ho⟩ := (ready_rdy hsz hl i).1 hi
      rw [hr0] at ho; cases ho
    · rename_i p0 l hr0
      refine ⟨fun q => ?_, fun i hi => ?_⟩
      · obtain ⟨i0, o0⟩ := p0
        have hm : (i0, o0) ∈ rdyL done 0 opl := by rw [hr0]; exact List.mem_cons_self ..
        obtain ⟨i', h1, h2, _⟩ := rdyL_mem.1 hm
        obtain rfl : i0 = i' := by omega
        have := (ready_rdy hsz hl i0).2 ⟨o0, h2, hm⟩
        rw [q] at this; cases this
      obtain ⟨o, ho, hm⟩ := (ready_rdy hsz hl i).1 hi
      rw [hr0] at hm
      have hp := allP_mem h _ hm
      dsimp only at hp
      have hilt : i < listed.size := by rw [hsz]; exact (List.getElem?_eq_some_iff.1 ho).1
      have hsz' : (listed.setIfInBounds i true).size = opl.length := by simp [hsz]
      have hl' : ∀ j, (listed.setIfInBounds i true).getD j false = true ↔ j ∈ i :: done := fun j => by
        by_cases e : i = j
        · subst e
          simp [Array.getD, hilt]
        · rw [getD_set_ne _ e, hl, List.mem_cons]
          exact ⟨.inr, fun h => h.resolve_left fun q => e q.symm⟩
      split at hp
      · rename_i hg
        have := wp1_ok (m := m) (ops := opl.toArray) (rest := []) (Q := onlyN (fun s => wpEach G opl (Q .normal) fuel (i :: done) s.T s.O s.nx) Q) hG hg hp (fun T' O' nx' hK => by
          intro E' hE' bs' a' w' hr'
          exact ⟨⟨T', O', nx', []⟩, bs', hK, hr'⟩) E hE bs a w hr
        have fin : ∀ a' w', QC C E G.N (onlyN (fun s => wpEach G opl (Q .normal) fuel (i :: done) s.T s.O s.nx) Q) .normal a' w' → wpAny C.P .any opl.toArray (QC C E G.N Q) fuel (listed.setIfInBounds i true) a' w' := by
          rintro a' w' ⟨⟨T', O', nx', d'⟩, bs', hK, hr'⟩
          exact wpEach_ok hG hE fuel _ _ T' O' nx' bs' a' w' hsz' hl' hK hr'
        have other : ∀ e a' w', e ≠ Exit.normal → QC C E G.N (onlyN (fun s => wpEach G opl (Q .normal) fuel (i :: done) s.T s.O s.nx) Q) e a' w' → QC C E G.N Q e a' w' := by
          rintro e a' w' hne ⟨s, bs', hs, hr'⟩
          refine ⟨s, bs', ?_, hr'⟩
          cases e with
          | normal => exact absurd rfl hne
          | _ => exact hs
        unfold wpOp
        have ho' : opl.toArray[i]? = some o := by simpa using ho
        rw [ho']
        unfold wpList at this
        dsimp only
        split
        · rename_i hw
          rw [if_pos hw] at this
          rcases this with h | ⟨h1, a', w', h2⟩
          · exact .inl (wp_both fin other h)
          · exact .inr ⟨h1, a', w', other _ _ _ (by simp) h2⟩
        · rename_i hw
          rw [if_neg hw] at this
          exact fin _ _ this
      · exact hp.elim
theorem AWP.each {C : Ctx} {G : Env} (hG : EnvOK C G) {m id : Nat} {opl : List Oper} {Q : Exit → St → Prop} {T0 : List (Nat × AV)} {O0 : List (Nat × AObj)} {nx : Nat} {dec : List Nat}
    (h : wpEach G opl (Q .normal) opl.length [] T0 O0 nx) : AWP C m G.N (.region id opl.toArray true) Q ⟨T0, O0, nx, dec⟩ := by
  intro E hE bs a w hr
  have hS : Step w (MB E (lk O0) bs) bs { w with drawn := w.drawn + 1 } (MB E (lk O0) bs) bs ∧ WRep C E (lk O0) bs { w with drawn := w.drawn + 1 } := by
    refine hr.1.2.next (fun _ => False) (fun _ _ h => h) (fun _ _ _ h => .inl h) (fun _ h => h.elim) (fun _ _ _ => rfl) (Nat.le_refl _) (fun _ h => .inl h) (fun _ _ _ h => .inl ⟨h, fun _ _ _ h => h⟩) hr.1.2.sep ?_ rfl ⟨rfl, fun _ => Nat.le_succ _⟩ rfl
    intro r t sz n f b c ho hb
    have := hr.1.2.frz r t sz n f b c ho hb
    exact ⟨fun h => this (.inr h), fun h => this (.inl h)⟩
  exact wp_region_any C.mixed (wpEach_ok hG hE _ [] _ T0 O0 nx bs a _ (by simp) (fun i => by simp [Array.getD]) (by simpa using h) ⟨⟨hr.1.1.step hS.1, hS.2⟩, hr.2.1, hr.2.2⟩)
def regE (G : Env) (x : Code) (Fe : List Nat) (Q : Exit → St → Prop) (s : St) : Prop := match x with
  | .region _ ops true => wpEach G ops.toList (Eng.canQ G.te G.m Fe [] Q .normal) ops.toList.length [] s.T s.O s.nx
  | _ => False
theorem LoopOK.regE {C : Ctx} {te : TE} (hte : Prg C te) {m N : Nat} {x : Code} {s S : St} {Q : Exit → St → Prop} (calls : List (Nat × CSpec)) (fuel : Nat) (hc : CallsOK C calls) (F Fe : List Nat)
    (h0 : canonIs te m F s S) (h : Eng.regE ⟨te, calls, [], m, N, fuel⟩ x Fe Q S) (hS : rowVC S.O True) : AWP C m N x Q s := by
  have hG : EnvOK C ⟨te, calls, [], m, N, fuel⟩ := ⟨hte.ok, hte.one, hc⟩
  have h1 : AWP C m N x (Eng.canQ te m Fe [] Q) S := by
    unfold Eng.regE at h
    split at h
    · rename_i id ops
      have := AWP.each (m := m) (id := id) (dec := S.dec) hG h
      simpa using this
    · exact h.elim
  exact AWP.canonIs F h0 h1.canQ hS
end Go.Eng
