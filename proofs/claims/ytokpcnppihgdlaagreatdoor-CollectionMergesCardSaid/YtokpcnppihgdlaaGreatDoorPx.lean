/- The reference of messages: its small functions. -/
import Derived.Test.YtokpcnppihgdlaaGreatDoorPt
import Derived.Test.YtokpcnppihgdlaaGreatDoorPw
import Derived.Test.YtokpcnppihgdlaaGreatDoorPq
import Derived.Test.YtokpcnppihgdlaaGreatDoorPp
namespace Go.Eng
open Go.Proofs Go.RowKit
variable {C : Ctx} [C.Loose]
set_option maxRecDepth 20000
theorem nf_sp11 (n : Nat) (v : Nat → Int) (a : Int) (R : AV → List (Nat × AObj) → Prop) : wpFn te [(46, .rel R_mmsg), (27, .det S_next)] [] 0 Tryz.f31 [.ptr 0 0] [.cells [.view 1 n (intRow v), .int .i64 a] 28] R = (letI z2 := (4611686018427387904 : Int); 28 = 28 ∧ 1 = 1 ∧ intRow v = intRow (vInt (intRow v)) ∧ ((0 : Int) ≤ a ∧ a ≤ (4611686018427385000 : Int)) ∧ ∀ (m : MG) (a' : Int), letI z6 := (nextV n (vInt (intRow v)) (a' + (1 : Int)) (5 : Int)); letI z5 := (nextV n (vInt (intRow v)) (a' + (1 : Int)) (2 : Int)); letI z3 := (nextV n (vInt (intRow v)) (a' + (1 : Int)) (3 : Int)); letI z1 := (nextV n (vInt (intRow v)) (a' + (1 : Int)) (4 : Int)); letI z4 := Int.toNat z1 < 4 ∧ 1 = 1; letI z0 := ([(0, .cells [.view 1 n (intRow v), .int .i64 (a' + (1 : Int) + (1 : Int))] 28)] : List (Nat × AObj)); MG.Made m → a ≤ a' ∧ a' ≤ a + (10 : Int) → (28 = 28 ∧ 1 = 1 ∧ intRow v = intRow (vInt (intRow v)) ∧ ((1 : Int) ≤ (16 : Int) ∧ (16 : Int) ≤ (1000000 : Int)) ∧ (0 : Int) ≤ a' ∧ a' ≤ z2) ∧ condP (decide (nextV n (vInt (intRow v)) a' (16 : Int) = (0 : Int))) ((4 ≤ 16777216 ∧ 1 = 1 ∧ 4 ≤ 9223372036854775807) ∧ (28 = 28 ∧ 1 = 1 ∧ intRow v = intRow (vInt (intRow v)) ∧ ((1 : Int) ≤ (4 : Int) ∧ (4 : Int) ≤ (1000000 : Int)) ∧ (0 : Int) ≤ a' + (1 : Int) ∧ a' + (1 : Int) ≤ z2) ∧ ((0 : Int) ≤ nextV n (vInt (intRow v)) (a' + (1 : Int)) (4 : Int) ∧ nextV n (vInt (intRow v)) (a' + (1 : Int)) (4 : Int) < (↑4 : Int)) ∧ z4 ∧ (True ∧ True) ∧ R (.agg [.str (List.getD [[], [(65 : UInt8)], [(97 : UInt8), 32, 98], [(97 : UInt8), 98, 99, 100, 101, 102, 103, 104, 105, 106, 107, 108, 109, 110, 111, 112, 113, 114, 115, 116, 117, 118, 119, 120, 121]] (Int.toNat z1) []), .int .i64 (MG.seq m), .int .i64 (MG.kind m), .str (VT.o (MG.v m)), .str (VT.p (MG.v m)), .int .i64 (VT.per (MG.v m)), .int .i64 (VT.day (MG.v m)), .int .i64 (VT.st (MG.v m)), .int .i64 (VT.pr (MG.v m)), .str (VT.rep (MG.v m)), .str (DT.o (MG.d m)), .str (DT.p (MG.d m)), .int .i64 (DT.per (MG.d m)), .str (DT.dev (MG.d m)), .int .i64 (DT.num (MG.d m))]) z0) (condP (decide (nextV n (vInt (intRow v)) a' (16 : Int) = (1 : Int))) ((4 ≤ 16777216 ∧ 1 = 1 ∧ 4 ≤ 9223372036854775807) ∧ (28 = 28 ∧ 1 = 1 ∧ intRow v = intRow (vInt (intRow v)) ∧ ((1 : Int) ≤ (4 : Int) ∧ (4 : Int) ≤ (1000000 : Int)) ∧ (0 : Int) ≤ a' + (1 : Int) ∧ a' + (1 : Int) ≤ z2) ∧ ((0 : Int) ≤ nextV n (vInt (intRow v)) (a' + (1 : Int)) (4 : Int) ∧ nextV n (vInt (intRow v)) (a' + (1 : Int)) (4 : Int) < (↑4 : Int)) ∧ z4 ∧ (True ∧ True) ∧ R (.agg [.str (MG.dev m), .int .i64 (List.getD [(0 : Int), (-1 : Int), (1048576 : Int), (1048577 : Int)] (Int.toNat z1) (0 : Int)), .int .i64 (MG.kind m), .str (VT.o (MG.v m)), .str (VT.p (MG.v m)), .int .i64 (VT.per (MG.v m)), .int .i64 (VT.day (MG.v m)), .int .i64 (VT.st (MG.v m)), .int .i64 (VT.pr (MG.v m)), .str (VT.rep (MG.v m)), .str (DT.o (MG.d m)), .str (DT.p (MG.d m)), .int .i64 (DT.per (MG.d m)), .str (DT.dev (MG.d m)), .int .i64 (DT.num (MG.d m))]) z0) (condP (decide (nextV n (vInt (intRow v)) a' (16 : Int) = (2 : Int))) ((28 = 28 ∧ 1 = 1 ∧ intRow v = intRow (vInt (intRow v)) ∧ ((1 : Int) ≤ (4 : Int) ∧ (4 : Int) ≤ (1000000 : Int)) ∧ (0 : Int) ≤ a' + (1 : Int) ∧ a' + (1 : Int) ≤ z2) ∧ (True ∧ True) ∧ R (.agg [.str (MG.dev m), .int .i64 (MG.seq m), .int .i64 z1, .str (VT.o (MG.v m)), .str (VT.p (MG.v m)), .int .i64 (VT.per (MG.v m)), .int .i64 (VT.day (MG.v m)), .int .i64 (VT.st (MG.v m)), .int .i64 (VT.pr (MG.v m)), .str (VT.rep (MG.v m)), .str (DT.o (MG.d m)), .str (DT.p (MG.d m)), .int .i64 (DT.per (MG.d m)), .str (DT.dev (MG.d m)), .int .i64 (DT.num (MG.d m))]) z0) (condP (decide (nextV n (vInt (intRow v)) a' (16 : Int) = (3 : Int))) ((2 ≤ 16777216 ∧ 1 = 1 ∧ 2 ≤ 9223372036854775807) ∧ (28 = 28 ∧ 1 = 1 ∧ intRow v = intRow (vInt (intRow v)) ∧ ((1 : Int) ≤ (2 : Int) ∧ (2 : Int) ≤ (1000000 : Int)) ∧ (0 : Int) ≤ a' + (1 : Int) ∧ a' + (1 : Int) ≤ z2) ∧ ((0 : Int) ≤ nextV n (vInt (intRow v)) (a' + (1 : Int)) (2 : Int) ∧ nextV n (vInt (intRow v)) (a' + (1 : Int)) (2 : Int) < (↑2 : Int)) ∧ (Int.toNat z5 < 2 ∧ 1 = 1) ∧ (True ∧ True) ∧ R (.agg [.str (MG.dev m), .int .i64 (MG.seq m), .int .i64 (MG.kind m), .str (List.getD [[], [(120 : UInt8), 32, 121]] (Int.toNat z5) []), .str (VT.p (MG.v m)), .int .i64 (VT.per (MG.v m)), .int .i64 (VT.day (MG.v m)), .int .i64 (VT.st (MG.v m)), .int .i64 (VT.pr (MG.v m)), .str (VT.rep (MG.v m)), .str (DT.o (MG.d m)), .str (DT.p (MG.d m)), .int .i64 (DT.per (MG.d m)), .str (DT.dev (MG.d m)), .int .i64 (DT.num (MG.d m))]) z0) (condP (decide (nextV n (vInt (intRow v)) a' (16 : Int) = (4 : Int))) ((3 ≤ 16777216 ∧ 1 = 1 ∧ 3 ≤ 9223372036854775807) ∧ (28 = 28 ∧ 1 = 1 ∧ intRow v = intRow (vInt (intRow v)) ∧ ((1 : Int) ≤ (3 : Int) ∧ (3 : Int) ≤ (1000000 : Int)) ∧ (0 : Int) ≤ a' + (1 : Int) ∧ a' + (1 : Int) ≤ z2) ∧ ((0 : Int) ≤ nextV n (vInt (intRow v)) (a' + (1 : Int)) (3 : Int) ∧ nextV n (vInt (intRow v)) (a' + (1 : Int)) (3 : Int) < (↑3 : Int)) ∧ (Int.toNat z3 < 3 ∧ 1 = 1) ∧ (True ∧ True) ∧ R (.agg [.str (MG.dev m), .int .i64 (MG.seq m), .int .i64 (MG.kind m), .str (VT.o (MG.v m)), .str (List.getD [[], [(49 : UInt8), 50, 51, 52, 53, 54, 55, 56], [(57 : UInt8), 54, 51, 56, 53, 48, 55, 52]] (Int.toNat z3) []), .int .i64 (VT.per (MG.v m)), .int .i64 (VT.day (MG.v m)), .int .i64 (VT.st (MG.v m)), .int .i64 (VT.pr (MG.v m)), .str (VT.rep (MG.v m)), .str (DT.o (MG.d m)), .str (DT.p (MG.d m)), .int .i64 (DT.per (MG.d m)), .str (DT.dev (MG.d m)), .int .i64 (DT.num (MG.d m))]) z0) (condP (decide (nextV n (vInt (intRow v)) a' (16 : Int) = (5 : Int))) ((4 ≤ 16777216 ∧ 1 = 1 ∧ 4 ≤ 9223372036854775807) ∧ (28 = 28 ∧ 1 = 1 ∧ intRow v = intRow (vInt (intRow v)) ∧ ((1 : Int) ≤ (4 : Int) ∧ (4 : Int) ≤ (1000000 : Int)) ∧ (0 : Int) ≤ a' + (1 : Int) ∧ a' + (1 : Int) ≤ z2) ∧ ((0 : Int) ≤ nextV n (vInt (intRow v)) (a' + (1 : Int)) (4 : Int) ∧ nextV n (vInt (intRow v)) (a' + (1 : Int)) (4 : Int) < (↑4 : Int)) ∧ z4 ∧ (True ∧ True) ∧ R (.agg [.str (MG.dev m), .int .i64 (MG.seq m), .int .i64 (MG.kind m), .str (VT.o (MG.v m)), .str (VT.p (MG.v m)), .int .i64 (List.getD [(-1 : Int), (0 : Int), (5999 : Int), (6000 : Int)] (Int.toNat z1) (0 : Int)), .int .i64 (VT.day (MG.v m)), .int .i64 (VT.st (MG.v m)), .int .i64 (VT.pr (MG.v m)), .str (VT.rep (MG.v m)), .str (DT.o (MG.d m)), .str (DT.p (MG.d m)), .int .i64 (DT.per (MG.d m)), .str (DT.dev (MG.d m)), .int .i64 (DT.num (MG.d m))]) z0) (condP (decide (nextV n (vInt (intRow v)) a' (16 : Int) = (6 : Int))) ((4 ≤ 16777216 ∧ 1 = 1 ∧ 4 ≤ 9223372036854775807) ∧ (28 = 28 ∧ 1 = 1 ∧ intRow v = intRow (vInt (intRow v)) ∧ ((1 : Int) ≤ (4 : Int) ∧ (4 : Int) ≤ (1000000 : Int)) ∧ (0 : Int) ≤ a' + (1 : Int) ∧ a' + (1 : Int) ≤ z2) ∧ ((0 : Int) ≤ nextV n (vInt (intRow v)) (a' + (1 : Int)) (4 : Int) ∧ nextV n (vInt (intRow v)) (a' + (1 : Int)) (4 : Int) < (↑4 : Int)) ∧ z4 ∧ (True ∧ True) ∧ R (.agg [.str (MG.dev m), .int .i64 (MG.seq m), .int .i64 (MG.kind m), .str (VT.o (MG.v m)), .str (VT.p (MG.v m)), .int .i64 (VT.per (MG.v m)), .int .i64 (List.getD [(-1 : Int), (0 : Int), (182620 : Int), (182621 : Int)] (Int.toNat z1) (0 : Int)), .int .i64 (VT.st (MG.v m)), .int .i64 (VT.pr (MG.v m)), .str (VT.rep (MG.v m)), .str (DT.o (MG.d m)), .str (DT.p (MG.d m)), .int .i64 (DT.per (MG.d m)), .str (DT.dev (MG.d m)), .int .i64 (DT.num (MG.d m))]) z0) (condP (decide (nextV n (vInt (intRow v)) a' (16 : Int) = (7 : Int))) ((28 = 28 ∧ 1 = 1 ∧ intRow v = intRow (vInt (intRow v)) ∧ ((1 : Int) ≤ (7 : Int) ∧ (7 : Int) ≤ (1000000 : Int)) ∧ (0 : Int) ≤ a' + (1 : Int) ∧ a' + (1 : Int) ≤ z2) ∧ (True ∧ True) ∧ R (.agg [.str (MG.dev m), .int .i64 (MG.seq m), .int .i64 (MG.kind m), .str (VT.o (MG.v m)), .str (VT.p (MG.v m)), .int .i64 (VT.per (MG.v m)), .int .i64 (VT.day (MG.v m)), .int .i64 (nextV n (vInt (intRow v)) (a' + (1 : Int)) (7 : Int)), .int .i64 (VT.pr (MG.v m)), .str (VT.rep (MG.v m)), .str (DT.o (MG.d m)), .str (DT.p (MG.d m)), .int .i64 (DT.per (MG.d m)), .str (DT.dev (MG.d m)), .int .i64 (DT.num (MG.d m))]) z0) (condP (decide (nextV n (vInt (intRow v)) a' (16 : Int) = (8 : Int))) ((5 ≤ 16777216 ∧ 1 = 1 ∧ 5 ≤ 9223372036854775807) ∧ (28 = 28 ∧ 1 = 1 ∧ intRow v = intRow (vInt (intRow v)) ∧ ((1 : Int) ≤ (5 : Int) ∧ (5 : Int) ≤ (1000000 : Int)) ∧ (0 : Int) ≤ a' + (1 : Int) ∧ a' + (1 : Int) ≤ z2) ∧ ((0 : Int) ≤ nextV n (vInt (intRow v)) (a' + (1 : Int)) (5 : Int) ∧ nextV n (vInt (intRow v)) (a' + (1 : Int)) (5 : Int) < (↑5 : Int)) ∧ (Int.toNat z6 < 5 ∧ 1 = 1) ∧ (True ∧ True) ∧ R (.agg [.str (MG.dev m), .int .i64 (MG.seq m), .int .i64 (MG.kind m), .str (VT.o (MG.v m)), .str (VT.p (MG.v m)), .int .i64 (VT.per (MG.v m)), .int .i64 (VT.day (MG.v m)), .int .i64 (VT.st (MG.v m)), .int .i64 (List.getD [(-1 : Int), (0 : Int), (1 : Int), (1099511627776 : Int), (1099511627777 : Int)] (Int.toNat z6) (0 : Int)), .str (VT.rep (MG.v m)), .str (DT.o (MG.d m)), .str (DT.p (MG.d m)), .int .i64 (DT.per (MG.d m)), .str (DT.dev (MG.d m)), .int .i64 (DT.num (MG.d m))]) z0) (condP (decide (nextV n (vInt (intRow v)) a' (16 : Int) = (9 : Int))) ((4 ≤ 16777216 ∧ 1 = 1 ∧ 4 ≤ 9223372036854775807) ∧ (28 = 28 ∧ 1 = 1 ∧ intRow v = intRow (vInt (intRow v)) ∧ ((1 : Int) ≤ (4 : Int) ∧ (4 : Int) ≤ (1000000 : Int)) ∧ (0 : Int) ≤ a' + (1 : Int) ∧ a' + (1 : Int) ≤ z2) ∧ ((0 : Int) ≤ nextV n (vInt (intRow v)) (a' + (1 : Int)) (4 : Int) ∧ nextV n (vInt (intRow v)) (a' + (1 : Int)) (4 : Int) < (↑4 : Int)) ∧ z4 ∧ (True ∧ True) ∧ R (.agg [.str (MG.dev m), .int .i64 (MG.seq m), .int .i64 (MG.kind m), .str (VT.o (MG.v m)), .str (VT.p (MG.v m)), .int .i64 (VT.per (MG.v m)), .int .i64 (VT.day (MG.v m)), .int .i64 (VT.st (MG.v m)), .int .i64 (VT.pr (MG.v m)), .str (List.getD [[], [(49 : UInt8), 50, 51, 52, 53, 54, 55, 56], [(57 : UInt8), 54, 51, 56, 53, 48, 55, 52], VT.p (MG.v m)] (Int.toNat z1) []), .str (DT.o (MG.d m)), .str (DT.p (MG.d m)), .int .i64 (DT.per (MG.d m)), .str (DT.dev (MG.d m)), .int .i64 (DT.num (MG.d m))]) z0) (condP (decide (nextV n (vInt (intRow v)) a' (16 : Int) = (10 : Int))) ((4 ≤ 16777216 ∧ 1 = 1 ∧ 4 ≤ 9223372036854775807) ∧ (28 = 28 ∧ 1 = 1 ∧ intRow v = intRow (vInt (intRow v)) ∧ ((1 : Int) ≤ (4 : Int) ∧ (4 : Int) ≤ (1000000 : Int)) ∧ (0 : Int) ≤ a' + (1 : Int) ∧ a' + (1 : Int) ≤ z2) ∧ ((0 : Int) ≤ nextV n (vInt (intRow v)) (a' + (1 : Int)) (4 : Int) ∧ nextV n (vInt (intRow v)) (a' + (1 : Int)) (4 : Int) < (↑4 : Int)) ∧ z4 ∧ (True ∧ True) ∧ R (.agg [.str (MG.dev m), .int .i64 (MG.seq m), .int .i64 (MG.kind m), .str (VT.o (MG.v m)), .str (VT.p (MG.v m)), .int .i64 (VT.per (MG.v m)), .int .i64 (VT.day (MG.v m)), .int .i64 (VT.st (MG.v m)), .int .i64 (VT.pr (MG.v m)), .str (VT.rep (MG.v m)), .str (DT.o (MG.d m)), .str (DT.p (MG.d m)), .int .i64 (DT.per (MG.d m)), .str (DT.dev (MG.d m)), .int .i64 (List.getD [(0 : Int), (1 : Int), (1048576 : Int), (1048577 : Int)] (Int.toNat z1) (0 : Int))]) z0) (condP (decide (nextV n (vInt (intRow v)) a' (16 : Int) = (11 : Int))) ((3 ≤ 16777216 ∧ 1 = 1 ∧ 3 ≤ 9223372036854775807) ∧ (28 = 28 ∧ 1 = 1 ∧ intRow v = intRow (vInt (intRow v)) ∧ ((1 : Int) ≤ (3 : Int) ∧ (3 : Int) ≤ (1000000 : Int)) ∧ (0 : Int) ≤ a' + (1 : Int) ∧ a' + (1 : Int) ≤ z2) ∧ ((0 : Int) ≤ nextV n (vInt (intRow v)) (a' + (1 : Int)) (3 : Int) ∧ nextV n (vInt (intRow v)) (a' + (1 : Int)) (3 : Int) < (↑3 : Int)) ∧ (Int.toNat z3 < 3 ∧ 1 = 1) ∧ (True ∧ True) ∧ R (.agg [.str (MG.dev m), .int .i64 (MG.seq m), .int .i64 (MG.kind m), .str (VT.o (MG.v m)), .str (VT.p (MG.v m)), .int .i64 (VT.per (MG.v m)), .int .i64 (VT.day (MG.v m)), .int .i64 (VT.st (MG.v m)), .int .i64 (VT.pr (MG.v m)), .str (VT.rep (MG.v m)), .str (DT.o (MG.d m)), .str (DT.p (MG.d m)), .int .i64 (DT.per (MG.d m)), .str (List.getD [[], [(45 : UInt8)], [(98 : UInt8)]] (Int.toNat z3) []), .int .i64 (DT.num (MG.d m))]) z0) ((True ∧ True) ∧ R (.agg [.str (MG.dev m), .int .i64 (MG.seq m), .int .i64 (MG.kind m), .str (VT.o (MG.v m)), .str (VT.p (MG.v m)), .int .i64 (VT.per (MG.v m)), .int .i64 (VT.day (MG.v m)), .int .i64 (VT.st (MG.v m)), .int .i64 (VT.pr (MG.v m)), .str (VT.rep (MG.v m)), .str (DT.o (MG.d m)), .str (DT.p (MG.d m)), .int .i64 (DT.per (MG.d m)), .str (DT.dev (MG.d m)), .int .i64 (DT.num (MG.d m))]) [(0, .cells [.view 1 n (intRow v), .int .i64 (a' + (1 : Int))] 28)]))))))))))))) := by kernel_rfl
theorem nf_list (n : Nat) (v : Nat → Int) (a : Int) (R : AV → List (Nat × AObj) → Prop) : wpFn te [(71, .rel R_msgs), (27, .det S_next), (31, .rel R_sp11)] [(3, L_li n v)] 0 Tryz.f36 [.ptr 0 0] [.cells [.view 1 n (intRow v), .int .i64 a] 28] R = (letI z5 := (4611686018427387904 : Int); 28 = 28 ∧ 1 = 1 ∧ intRow v = intRow (vInt (intRow v)) ∧ ((0 : Int) ≤ a ∧ a ≤ (4611686018427370000 : Int)) ∧ ((0 : Int) ≤ (9 : Int) ∧ (9 : Int) ≤ (90 : Int)) ∧ ∀ (c : Nat) (g : Nat → MG) (a' : Int), c ≤ Int.toNat (9 : Int) → a ≤ a' ∧ a' ≤ a + (1000 : Int) → (∀ (j : Nat), j < c → MG.Made (g j)) → (∀ (i : Nat), i < c → true = true) ∧ (28 = 28 ∧ 1 = 1 ∧ intRow v = intRow (vInt (intRow v)) ∧ ((1 : Int) ≤ (3 : Int) ∧ (3 : Int) ≤ (1000000 : Int)) ∧ (0 : Int) ≤ a' ∧ a' ≤ z5) ∧ ∃ (N : Int), ∃ (c_1 : Nat), ∃ (g_1 : Nat → MG), ∃ (a : Int), letI z4 := LiS.mk 0 c_1 g_1 a; (TEq [(0, .ptr 0 0), (3, .own 1 c), (7, .int .i64 (nextV n (vInt (intRow v)) a' (3 : Int))), (8, .int .i64 0)] [(0, .ptr 0 0), (3, .own 1 (LiS.c z4)), (7, .int .i64 N), (8, .int .i64 (↑(LiS.j z4) : Int))] ∧ RowsEq [(0, .cells [.view 1 n (intRow v), .int .i64 (a' + (1 : Int))] 28), (1, .row 56 15 c (mgRow g) false)] [(0, .cells [.view 1 n (intRow v), .int .i64 (LiS.a z4)] 28), (1, .row 56 15 (LiS.c z4) (mgRow (LiS.g z4)) false)]) ∧ ((0 : Int) ≤ N ∧ N ≤ (2 : Int)) ∧ c_1 ≤ 9 ∧ ((0 : Int) ≤ a ∧ a ≤ (4611686018427365000 : Int)) ∧ (∀ (j : Nat), j < c_1 → MG.Sm (g_1 j)) ∧ ∀ (i : LiS), letI z3 := (LiS.a i + (1 : Int)); letI z2 := (↑(LiS.c i) : Int); letI z0 := (LiS.g i (Int.toNat (nextV n (vInt (intRow v)) z3 z2))); letI z1 := chunkA (TI.sz shrt0) (.str (MG.dev z0) :: .int .i64 (MG.seq z0) :: .int .i64 (MG.kind z0) :: .str (VT.o (MG.v z0)) :: .str (VT.p (MG.v z0)) :: .int .i64 (VT.per (MG.v z0)) :: .int .i64 (VT.day (MG.v z0)) :: .int .i64 (VT.st (MG.v z0)) :: .int .i64 (VT.pr (MG.v z0)) :: .str (VT.rep (MG.v z0)) :: .str (DT.o (MG.d z0)) :: .str (DT.p (MG.d z0)) :: .int .i64 (DT.per (MG.d z0)) :: .str (DT.dev (MG.d z0)) :: .int .i64 (DT.num (MG.d z0)) :: List.append [] shrt1); LiS.c i = c_1 + Int.toNat N → a ≤ LiS.a i ∧ LiS.a i ≤ a + (24 : Int) → (∀ (j : Nat), j < LiS.c i → MG.Sm (LiS.g i j)) → condP (decide ((0 : Int) < z2)) ((28 = 28 ∧ 1 = 1 ∧ intRow v = intRow (vInt (intRow v)) ∧ ((1 : Int) ≤ (2 : Int) ∧ (2 : Int) ≤ (1000000 : Int)) ∧ (0 : Int) ≤ LiS.a i ∧ LiS.a i ≤ z5) ∧ condP (decide (nextV n (vInt (intRow v)) (LiS.a i) (2 : Int) = (0 : Int))) ((28 = 28 ∧ 1 = 1 ∧ intRow v = intRow (vInt (intRow v)) ∧ ((1 : Int) ≤ z2 ∧ z2 ≤ (1000000 : Int)) ∧ (0 : Int) ≤ LiS.a i + (1 : Int) ∧ LiS.a i + (1 : Int) ≤ z5) ∧ ((0 : Int) ≤ nextV n (vInt (intRow v)) z3 z2 ∧ nextV n (vInt (intRow v)) z3 z2 < z2) ∧ (Int.toNat (nextV n (vInt (intRow v)) z3 z2) < LiS.c i ∧ 15 = 15) ∧ (15 ≤ 16777216 ∧ 15 = 15 ∧ 1 ≤ 9223372036854775807) ∧ ((1 ≤ 1 ∧ 15 = 15) ∧ LiS.c i ≤ LiS.c i ∧ 15 = 15 ∧ 56 = 56 ∧ 15 = 15 ∧ LiS.c i + 1 ≤ 9223372036854775807 ∧ (LiS.c i + 1) * TI.bytes shrt0 ≤ 140737488355328) ∧ (∀ (i_1 : Nat), i_1 < LiS.c i + 1 → nrefL (apF (LiS.c i) (mgRow (LiS.g i)) z1 i_1) = true) ∧ ∃ (O' : List (Nat × AObj)), RowsEq [(0, .cells [.view 1 n (intRow v), .int .i64 (LiS.a i + (1 : Int) + (1 : Int))] 28), (1, .row 56 15 (LiS.c i + 1) (apF (LiS.c i) (mgRow (LiS.g i)) z1) false)] O' ∧ R (.own 1 (LiS.c i + 1)) O') ((∀ (i_1 : Nat), i_1 < LiS.c i → true = true) ∧ ∃ (O' : List (Nat × AObj)), RowsEq [(0, .cells [.view 1 n (intRow v), .int .i64 z3] 28), (1, .row 56 15 (LiS.c i) (mgRow (LiS.g i)) false)] O' ∧ R (.own 1 (LiS.c i)) O')) ((∀ (i_1 : Nat), i_1 < LiS.c i → true = true) ∧ ∃ (O' : List (Nat × AObj)), RowsEq [(0, .cells [.view 1 n (intRow v), .int .i64 (LiS.a i)] 28), (1, .row 56 15 (LiS.c i) (mgRow (LiS.g i)) false)] O' ∧ R (.own 1 (LiS.c i)) O')) := by kernel_rfl
theorem nf_li_round (n : Nat) (v : Nat → Int) (N : Int) (i : LiS) (P : LiS → Prop) (R : Exit → St → Prop) : roundP ⟨te, [(31, .rel R_sp11)], [], 1, 35, 0⟩ (loopB Tryz.f36 3) [0, 3, 7, 8] [0, 3] [] (S_li n v N) P R (S_li n v N i) = (condP (decide ((↑(LiS.j i) : Int) < N)) (28 = 28 ∧ 1 = 1 ∧ intRow v = intRow (vInt (intRow v)) ∧ ((0 : Int) ≤ LiS.a i ∧ LiS.a i ≤ (4611686018427380000 : Int)) ∧ ∀ (m : MG) (a' : Int), MG.Sm m → LiS.a i ≤ a' ∧ a' ≤ LiS.a i + (12 : Int) → (15 ≤ 16777216 ∧ 15 = 15 ∧ 1 ≤ 9223372036854775807) ∧ ((1 ≤ 1 ∧ 15 = 15) ∧ LiS.c i ≤ LiS.c i ∧ 15 = 15 ∧ 56 = 56 ∧ 15 = 15 ∧ LiS.c i + 1 ≤ 9223372036854775807 ∧ (LiS.c i + 1) * TI.bytes shrt0 ≤ 140737488355328) ∧ inR .i64 ((↑(LiS.j i) : Int) + (1 : Int)) ∧ ∃ (i' : LiS), (TEq [(0, .ptr 0 0), (3, .own 1 (LiS.c i + 1)), (7, .int .i64 N), (8, .int .i64 ((↑(LiS.j i) : Int) + (1 : Int)))] [(0, .ptr 0 0), (3, .own 1 (LiS.c i')), (7, .int .i64 N), (8, .int .i64 (↑(LiS.j i') : Int))] ∧ RowsEq [(0, .cells [.view 1 n (intRow v), .int .i64 a'] 28), (1, .row 56 15 (LiS.c i + 1) (apF (LiS.c i) (mgRow (LiS.g i)) (chunkA (TI.sz shrt0) (.str (MG.dev m) :: .int .i64 (MG.seq m) :: .int .i64 (MG.kind m) :: .str (VT.o (MG.v m)) :: .str (VT.p (MG.v m)) :: .int .i64 (VT.per (MG.v m)) :: .int .i64 (VT.day (MG.v m)) :: .int .i64 (VT.st (MG.v m)) :: .int .i64 (VT.pr (MG.v m)) :: .str (VT.rep (MG.v m)) :: .str (DT.o (MG.d m)) :: .str (DT.p (MG.d m)) :: .int .i64 (DT.per (MG.d m)) :: .str (DT.dev (MG.d m)) :: .int .i64 (DT.num (MG.d m)) :: List.append [] shrt1))) false)] [(0, .cells [.view 1 n (intRow v), .int .i64 (LiS.a i')] 28), (1, .row 56 15 (LiS.c i') (mgRow (LiS.g i')) false)]) ∧ P i') ((∀ (i_1 : Nat), i_1 < LiS.c i → true = true) ∧ ∃ (O' : List (Nat × AObj)), RowsEq [(0, .cells [.view 1 n (intRow v), .int .i64 (LiS.a i)] 28), (1, .row 56 15 (LiS.c i) (mgRow (LiS.g i)) false)] O' ∧ R (.exit 0) (St.mk [(0, .ptr 0 0), (3, .own 1 (LiS.c i))] O' 2 []))) := by kernel_rfl
theorem getD_len {L : List (List UInt8)} {B : Nat} (h : ∀ s ∈ L, s.length ≤ B) (i : Nat) : (List.getD L i []).length ≤ B := by
  rw [List.getD_eq_getElem?_getD]
  cases q : L[i]? with
  | none => exact Nat.zero_le _
  | some s => exact h s (List.mem_of_getElem? q)
theorem MG.Made.sm {m : MG} (h : m.Made) : m.Sm := ⟨by have := h.dev; omega, by have := h.o; omega, by have := h.o'; omega, by have := h.dd; omega⟩
theorem sp11_ok (hP : C.P = Tryz.prog) : RSpecOK C 31 R_sp11 := by
  rintro args objs R h
  unfold R_sp11 at h
  split at h
  · rename_i sz n f a t
    obtain ⟨rfl, rfl, hf, ha, hR⟩ := h
    rw [hf] at hR ⊢
    generalize vInt f = v at *
    have hw : vInt (intRow v) = v := rfl
    refine RSpecOK.wpL (prg hP) [(46, .rel R_mmsg), (27, .det S_next)] [] 0 (.cons (mmsg_ok hP) (.cons (next_ok hP) .nil)) (hP ▸ Tryz.func31) rfl rfl rfl [] (by kernel_rfl) trivial ?_
    rw [nf_sp11, hw]
    refine ⟨rfl, rfl, rfl, by omega, fun m a' hm ha' => ?_⟩
    have sm := hm.sm
    have fin : ∀ (dev : List UInt8) (seq kind : Int) (o p : List UInt8) (per day st pr : Int) (rep o' p' : List UInt8) (per' : Int) (dd : List UInt8) (num a2 : Int), dev.length ≤ 30 → o.length ≤ 30 → o'.length ≤ 30 → dd.length ≤ 30 → (a' ≤ a2 ∧ a2 ≤ a' + 2) →
        R (.agg [.str dev, .int .i64 seq, .int .i64 kind, .str o, .str p, .int .i64 per, .int .i64 day, .int .i64 st, .int .i64 pr, .str rep, .str o', .str p', .int .i64 per', .str dd, .int .i64 num]) [(0, .cells [.view 1 n (intRow v), .int .i64 a2] 28)] := fun dev seq kind o p per day st pr rep o' p' per' dd num a2 l1 l2 l3 l4 ha2 =>
      hR ⟨dev, seq, kind, ⟨o, p, per, day, st, pr, rep⟩, ⟨o', p', per', dd, num⟩⟩ a2 ⟨by show dev.length < _; omega, by show o.length < _; omega, by show o'.length < _; omega, by show dd.length < _; omega⟩ (by omega)
    have d1 : m.dev.length ≤ 30 := by have := hm.dev; omega
    have d2 : m.v.o.length ≤ 30 := by have := hm.o; omega
    have d3 : m.d.o.length ≤ 30 := by have := hm.o'; omega
    have d4 : m.d.dev.length ≤ 30 := by have := hm.dd; omega
    have r2 := nextV_range (show (1 : Int) ≤ 2 by omega) n v (a' + 1)
    have r3 := nextV_range (show (1 : Int) ≤ 3 by omega) n v (a' + 1)
    have r4 := nextV_range (show (1 : Int) ≤ 4 by omega) n v (a' + 1)
    have r5 := nextV_range (show (1 : Int) ≤ 5 by omega) n v (a' + 1)
    have r7 := nextV_range (show (1 : Int) ≤ 7 by omega) n v (a' + 1)
    refine ⟨⟨rfl, rfl, rfl, ⟨by omega, by omega⟩, by omega, by omega⟩, ?_⟩
    have nx : ∀ k : Int, 1 ≤ k → k ≤ 1000000 → (28 = 28 ∧ 1 = 1 ∧ intRow v = intRow (vInt (intRow v)) ∧ (1 ≤ k ∧ k ≤ 1000000) ∧ 0 ≤ a' + 1 ∧ a' + 1 ≤ 4611686018427387904) := fun k k1 k2 => ⟨rfl, rfl, rfl, ⟨k1, k2⟩, by omega, by omega⟩
    have sz : ∀ k : Nat, k ≤ 100 → k ≤ 16777216 ∧ 1 = 1 ∧ k ≤ 9223372036854775807 := fun k hk => ⟨by omega, rfl, by omega⟩
    refine condP_dec (fun _ => ⟨sz 4 (by omega), nx 4 (by omega) (by omega), ⟨by omega, by omega⟩, ⟨by omega, rfl⟩, ⟨trivial, trivial⟩, fin _ _ _ _ _ _ _ _ _ _ _ _ _ _ _ _ (getD_len (by decide) _) d2 d3 d4 (by omega)⟩) (fun _ => ?_)
    refine condP_dec (fun _ => ⟨sz 4 (by omega), nx 4 (by omega) (by omega), ⟨by omega, by omega⟩, ⟨by omega, rfl⟩, ⟨trivial, trivial⟩, fin _ _ _ _ _ _ _ _ _ _ _ _ _ _ _ _ d1 d2 d3 d4 (by omega)⟩) (fun _ => ?_)
    refine condP_dec (fun _ => ⟨nx 4 (by omega) (by omega), ⟨trivial, trivial⟩, fin _ _ _ _ _ _ _ _ _ _ _ _ _ _ _ _ d1 d2 d3 d4 (by omega)⟩) (fun _ => ?_)
    refine condP_dec (fun _ => ⟨sz 2 (by omega), nx 2 (by omega) (by omega), ⟨by omega, by omega⟩, ⟨by omega, rfl⟩, ⟨trivial, trivial⟩, fin _ _ _ _ _ _ _ _ _ _ _ _ _ _ _ _ d1 (getD_len (by decide) _) d3 d4 (by omega)⟩) (fun _ => ?_)
    refine condP_dec (fun _ => ⟨sz 3 (by omega), nx 3 (by omega) (by omega), ⟨by omega, by omega⟩, ⟨by omega, rfl⟩, ⟨trivial, trivial⟩, fin _ _ _ _ _ _ _ _ _ _ _ _ _ _ _ _ d1 d2 d3 d4 (by omega)⟩) (fun _ => ?_)
    refine condP_dec (fun _ => ⟨sz 4 (by omega), nx 4 (by omega) (by omega), ⟨by omega, by omega⟩, ⟨by omega, rfl⟩, ⟨trivial, trivial⟩, fin _ _ _ _ _ _ _ _ _ _ _ _ _ _ _ _ d1 d2 d3 d4 (by omega)⟩) (fun _ => ?_)
    refine condP_dec (fun _ => ⟨sz 4 (by omega), nx 4 (by omega) (by omega), ⟨by omega, by omega⟩, ⟨by omega, rfl⟩, ⟨trivial, trivial⟩, fin _ _ _ _ _ _ _ _ _ _ _ _ _ _ _ _ d1 d2 d3 d4 (by omega)⟩) (fun _ => ?_)
    refine condP_dec (fun _ => ⟨nx 7 (by omega) (by omega), ⟨trivial, trivial⟩, fin _ _ _ _ _ _ _ _ _ _ _ _ _ _ _ _ d1 d2 d3 d4 (by omega)⟩) (fun _ => ?_)
    refine condP_dec (fun _ => ⟨sz 5 (by omega), nx 5 (by omega) (by omega), ⟨by omega, by omega⟩, ⟨by omega, rfl⟩, ⟨trivial, trivial⟩, fin _ _ _ _ _ _ _ _ _ _ _ _ _ _ _ _ d1 d2 d3 d4 (by omega)⟩) (fun _ => ?_)
    refine condP_dec (fun _ => ⟨sz 4 (by omega), nx 4 (by omega) (by omega), ⟨by omega, by omega⟩, ⟨by omega, rfl⟩, ⟨trivial, trivial⟩, fin _ _ _ _ _ _ _ _ _ _ _ _ _ _ _ _ d1 d2 d3 d4 (by omega)⟩) (fun _ => ?_)
    refine condP_dec (fun _ => ⟨sz 4 (by omega), nx 4 (by omega) (by omega), ⟨by omega, by omega⟩, ⟨by omega, rfl⟩, ⟨trivial, trivial⟩, fin _ _ _ _ _ _ _ _ _ _ _ _ _ _ _ _ d1 d2 d3 d4 (by omega)⟩) (fun _ => ?_)
    refine condP_dec (fun _ => ⟨sz 3 (by omega), nx 3 (by omega) (by omega), ⟨by omega, by omega⟩, ⟨by omega, rfl⟩, ⟨trivial, trivial⟩, fin _ _ _ _ _ _ _ _ _ _ _ _ _ _ _ _ d1 d2 d3 (getD_len (by decide) _) (by omega)⟩) (fun _ => ?_)
    exact ⟨⟨trivial, trivial⟩, fin _ _ _ _ _ _ _ _ _ _ _ _ _ _ _ _ d1 d2 d3 d4 (by omega)⟩
  · exact h.elim
theorem li_loop (hP : C.P = Tryz.prog) (n : Nat) (v : Nat → Int) : LoopOK C 1 35 (loopC Tryz.f36 3) (L_li n v) := by
  rintro st Q ⟨N, c, g, a, h0, hN, hc, ha, hs, hQ⟩
  refine LoopOK.mk (prg hP) [(31, .rel R_sp11)] 0 (.cons (sp11_ok hP) .nil) [0, 3, 7, 8] [0, 3] [] (S_li n v N) (fun i => (i.j : Int) ≤ N ∧ i.c = c + i.j ∧ (a ≤ i.a ∧ i.a ≤ a + 12 * i.j) ∧ ∀ j, j < i.c → (i.g j).Sm) (fun i => N.toNat - i.j) ⟨0, c, g, a⟩
    ⟨hN.1, rfl, by show a ≤ a ∧ a ≤ a + 12 * ((0 : Nat) : Int); omega, hs⟩ h0 (fun i hi => ?_) (fun i => ⟨fun _ _ => rfl, trivial⟩)
  obtain ⟨h1, h2, h3, h4⟩ := hi
  rw [nf_li_round]
  refine condP_dec (fun q => ?_) (fun q => ⟨fun _ _ => rfl, _, rowsEqR _, hQ i (by omega) (by omega) h4⟩)
  refine ⟨rfl, rfl, rfl, by omega, fun m a' hm ha' => ⟨⟨by omega, rfl, by omega⟩, ⟨⟨Nat.le_refl _, rfl⟩, Nat.le_refl _, rfl, rfl, rfl, by omega, ?_⟩, by simp only [inR]; omega, ⟨i.j + 1, i.c + 1, MG.put i.g i.c m, a'⟩, ⟨rfl, rfl, ⟨rfl, rfl, rfl, rfl, rfl, fun j hj => ?_⟩, trivial⟩, ⟨?_, ?_, ?_, fun j hj => ?_⟩, ?_⟩⟩
  · show (i.c + 1) * 176 ≤ _
    omega
  · exact mput_ap i.g i.c m _ rfl j hj
  · show ((i.j + 1 : Nat) : Int) ≤ N
    omega
  · show i.c + 1 = c + (i.j + 1)
    omega
  · show a ≤ a' ∧ a' ≤ a + 12 * ((i.j + 1 : Nat) : Int)
    omega
  · show (MG.put i.g i.c m j).Sm
    unfold MG.put
    by_cases h : j < i.c
    · rw [if_pos h]; exact h4 j h
    · rw [if_neg h]; exact hm
  · show N.toNat - (i.j + 1) < N.toNat - i.j
    omega
theorem list_ok (hP : C.P = Tryz.prog) : RSpecOK C 36 R_list := by
  rintro args objs R h
  unfold R_list at h
  split at h
  · rename_i sz n f a t
    obtain ⟨rfl, rfl, hf, ha, hR⟩ := h
    rw [hf] at hR ⊢
    generalize vInt f = v at *
    have hw : vInt (intRow v) = v := rfl
    refine ACalls.frzO 1 ?_
    refine RSpecOK.wpL (prg hP) [(71, .rel R_msgs), (27, .det S_next), (31, .rel R_sp11)] [(3, L_li n v)] 0 (.cons (msgs_ok hP) (.cons (next_ok hP) (.cons (sp11_ok hP) .nil))) (hP ▸ Tryz.func36) rfl rfl rfl [(loopC Tryz.f36 3, L_li n v)] (by kernel_rfl) ⟨li_loop hP n v, trivial⟩ ?_
    rw [nf_list, hw]
    refine ⟨rfl, rfl, rfl, by omega, ⟨by omega, by omega⟩, fun c g a' hc ha' hm => ?_⟩
    have hc : c ≤ 9 := hc
    have r := nextV_range (show (1 : Int) ≤ 3 by omega) n v a'
    refine ⟨fun _ _ => rfl, ⟨rfl, rfl, rfl, ⟨by omega, by omega⟩, by omega, by omega⟩, nextV n v a' 3, c, g, a' + 1, ⟨rfl, rfl, ⟨rfl, rfl, rfl, rfl, rfl, fun _ _ => rfl⟩, trivial⟩, ⟨by omega, by omega⟩, hc, ⟨by omega, by omega⟩, fun j hj => (hm j hj).sm, fun i h1 h2 h3 => ?_⟩
    have fin : ∀ (k : Nat) (h : Nat → MG) (a2 : Int), k ≤ 12 → (a ≤ a2 ∧ a2 ≤ a + 1100) → (∀ j, j < k → (h j).Sm) → frzO 1 R (.own 1 k) [(0, .cells [.view 1 n (intRow v), .int .i64 a2] 28), (1, .row 56 15 k (mgRow h) false)] := fun k h a2 k1 k2 k3 => by
      have hb : Nat.ble k k = true := Nat.ble_eq_true_of_le (Nat.le_refl _)
      refine ⟨fun _ _ => rfl, ?_⟩
      have e : frzC 1 15 k (mgRow h) (.own 1 k) = .view 15 k (mgRow h) := by simp [frzC, frzA, frz, hb]
      rw [e]
      exact hR k h a2 k1 k2 k3
    have no : ∀ a2 : Int, (i.a ≤ a2 ∧ a2 ≤ i.a + 2) → frzO 1 R (.own 1 i.c) [(0, .cells [.view 1 n (intRow v), .int .i64 a2] 28), (1, .row 56 15 i.c (mgRow i.g) false)] := fun a2 k => fin i.c i.g a2 (by omega) (by omega) h3
    refine condP_dec (fun q1 => ⟨⟨rfl, rfl, rfl, ⟨by omega, by omega⟩, by omega, by omega⟩, condP_dec (fun q2 => ?_) (fun q2 => ⟨fun _ _ => rfl, _, rowsEqR _, no _ (by omega)⟩)⟩) (fun q1 => ⟨fun _ _ => rfl, _, rowsEqR _, no _ (by omega)⟩)
    have r2 := nextV_range (show (1 : Int) ≤ (i.c : Int) by omega) n v (i.a + 1)
    refine ⟨⟨rfl, rfl, rfl, ⟨by omega, by omega⟩, by omega, by omega⟩, ⟨by omega, by omega⟩, ⟨by omega, rfl⟩, ⟨by omega, rfl, by omega⟩, ⟨⟨Nat.le_refl _, rfl⟩, Nat.le_refl _, rfl, rfl, rfl, by omega, ?_⟩, fun j hj => ?_, [(0, .cells [.view 1 n (intRow v), .int .i64 (i.a + 1 + 1)] 28), (1, .row 56 15 (i.c + 1) (mgRow (MG.put i.g i.c (i.g (nextV n v (i.a + 1) (i.c : Int)).toNat))) false)], ⟨rfl, ⟨rfl, rfl, rfl, rfl, rfl, fun j hj => ?_⟩, trivial⟩, fin _ _ _ (by omega) (by omega) (fun j hj => ?_)⟩
    · show (i.c + 1) * 176 ≤ _
      omega
    · rw [mput_ap i.g i.c (i.g (nextV n v (i.a + 1) (i.c : Int)).toNat) _ rfl j hj]; rfl
    · exact mput_ap i.g i.c (i.g (nextV n v (i.a + 1) (i.c : Int)).toNat) _ rfl j hj
    · unfold MG.put
      by_cases h : j < i.c
      · rw [if_pos h]; exact h3 j h
      · rw [if_neg h]; exact h3 _ (by omega)
  · exact h.elim
end Go.Eng
namespace Go.Eng
def dnM (L : List MG) (m : MG) : Nat → Nat
  | 0 => 0
  | a + 1 => bif decide (ordM m (atM L a) < 0) then dnM L m a else a + 1
def catM (g : Nat → MG) (n : Nat) (h : Nat → MG) (i : Nat) : MG := if i < n then g i else h (i - n)
def mfL (c : Nat → MG) (k : Nat) : List MG := mrgF (lst c k)
def S_rm (c : Nat → MG) (N k : Nat) : St := ⟨[(5, .own 0 (mfL c k).length), (14, .own 1 N), (15, .int .i64 N), (16, .int .i64 k)], [(0, .row 56 15 (mfL c k).length (mgRow (atM (mfL c k))) false), (1, .row 56 15 N (mgRow c) false)], 2, []⟩
def L_rm (c : Nat → MG) (N : Nat) : LSpec := fun st Q => canonIs te 0 [5, 14, 15, 16] (ownNil 5 56 15 st) (S_rm c N 0) ∧ N ≤ 200000 ∧ (∀ i, i < N → (c i).Sm) ∧
  Q (.exit 0) ⟨[(5, .own 0 (mfL c N).length)], [(0, .row 56 15 (mfL c N).length (mgRow (atM (mfL c N))) false)], 1, []⟩
def S_rmi (L : List MG) (m : MG) (c : Nat → MG) (N k a : Nat) : St := ⟨[(5, .own 0 L.length), (7, .ptr 1 0), (8, .int .i64 a), (14, .own 2 N), (15, .int .i64 N), (16, .int .i64 k)],
  [(0, .row 56 15 L.length (mgRow (atM L)) false), (1, .cells [.str m.dev, .int .i64 m.seq, .int .i64 m.kind, .str m.v.o, .str m.v.p, .int .i64 m.v.per, .int .i64 m.v.day, .int .i64 m.v.st, .int .i64 m.v.pr, .str m.v.rep, .str m.d.o, .str m.d.p, .int .i64 m.d.per, .str m.d.dev, .int .i64 m.d.num] 56), (2, .row 56 15 N (mgRow c) false)], 3, []⟩
def L_rmi (L : List MG) (m : MG) (c : Nat → MG) (N k : Nat) : LSpec := fun st Q => canonIs te 0 [5, 7, 8, 14, 15, 16] st (S_rmi L m c N k L.length) ∧ L.length ≤ 200000 ∧
  Q (.exit 2) (S_rmi L m c N k (dnM L m L.length))
end Go.Eng
namespace Go.Eng
open Go.Proofs Go.RowKit
variable {C : Ctx} [C.Loose]
set_option maxRecDepth 20000
end Go.Eng
namespace Go.Eng
open Go.Proofs Go.RowKit
variable {C : Ctx} [C.Loose]
set_option maxRecDepth 20000
theorem nf_period (p : Int) (R : AV → List (Nat × AObj) → Prop) : wpFn te [] [] 0 Tryz.f123 [.int .i64 p] [] R = (condP (decide ((0 : Int) ≤ p)) (R (.bool (decide (p ≤ (5999 : Int)))) []) (R (.bool false) [])) := by kernel_rfl
theorem nf_slotR (o p : List UInt8) (per : Int) (R : AV → List (Nat × AObj) → Prop) : wpFn te [(68, .det S_nameR), (99, .det S_validID), (123, .det S_period)] [] 0 Tryz.f93 [.str o, .str p, .int .i64 per] [] R = (List.length o ≤ 9223372036854775806 ∧ condP (nameF o) (True ∧ condP (validIDF p) (True ∧ R (.bool (decide ((0 : Int) ≤ per) && decide (per ≤ (5999 : Int)))) []) (R (.bool false) [])) (R (.bool false) [])) := by kernel_rfl
theorem period_ok (hP : C.P = Tryz.prog) : SpecOK C 123 S_period := by
  have _ : C.Loose := inferInstance
  rintro args objs U Os vc h hvc
  unfold S_period at h
  split at h <;> simp only [Option.some.injEq, Prod.mk.injEq, reduceCtorEq] at h
  obtain ⟨rfl, rfl, rfl⟩ := h
  refine SpecOK.wp0 (prg hP) [] 0 .nil (hP ▸ Tryz.func123) rfl rfl rfl ?_
  rw [nf_period]
  exact condP_intro (fun h => by rw [h]; exact ⟨rfl, rfl⟩) (fun h => by rw [h]; exact ⟨rfl, rfl⟩)
theorem slotR_ok (hP : C.P = Tryz.prog) : SpecOK C 93 S_slotR := by
  rintro args objs U Os vc h hvc
  unfold S_slotR at h
  split at h <;> simp only [Option.some.injEq, Prod.mk.injEq, reduceCtorEq] at h
  rename_i o p per
  obtain ⟨rfl, rfl, rfl⟩ := h
  refine SpecOK.wp0 (prg hP) [(68, .det S_nameR), (99, .det S_validID), (123, .det S_period)] 0 (.cons (nameR_ok hP) (.cons (validIDR_ok hP) (.cons (period_ok hP) .nil))) (hP ▸ Tryz.func93) rfl rfl rfl ?_
  rw [nf_slotR]
  unfold slotF
  exact ⟨by omega, condP_intro (fun h1 => ⟨trivial, condP_intro (fun h2 => ⟨trivial, by rw [h1, h2, Bool.true_and, Bool.true_and]; exact ⟨rfl, rfl⟩⟩) (fun h2 => by rw [h1, h2]; exact ⟨rfl, rfl⟩)⟩) (fun h1 => by rw [h1]; exact ⟨rfl, rfl⟩)⟩
end Go.Eng
namespace Go.Eng
open Go.Proofs Go.RowKit
variable {C : Ctx} [C.Loose]
set_option maxRecDepth 20000
theorem nf_visitR (o p : List UInt8) (per day st pr : Int) (rep : List UInt8) (R : AV → List (Nat × AObj) → Prop) : wpFn te [(93, .det S_slotR), (99, .det S_validID)] [] 0 Tryz.f69 [.agg [.str o, .str p, .int .i64 per, .int .i64 day, .int .i64 st, .int .i64 pr, .str rep]] [] R = (letI z1 := R (.bool false) []; letI z4 := (condP (decide (pr = (0 : Int))) (R (.bool (decide (rep = []))) []) z1); letI z3 := (condP (decide ((1 : Int) ≤ pr)) (condP (decide (pr ≤ (1099511627776 : Int))) (R (.bool (decide (rep = []))) []) z1) z1); letI z2 := (condP (decide (st = (5 : Int))) (condP (decide ((1 : Int) ≤ pr)) (condP (decide (pr ≤ (1099511627776 : Int))) (True ∧ condP (validIDF rep) (R (.bool !decide (rep = p)) []) z1) z1) z1) z1); letI z0 := (condP (decide (st = (3 : Int))) (condP (decide (st = (3 : Int))) z4 z2) (condP (decide (st = (4 : Int))) z4 z2)); List.length o < 4294967281 ∧ condP (!slotF o p per) z1 (condP (decide (day < (0 : Int))) z1 (condP (decide ((182621 : Int) ≤ day)) z1 (condP (decide (st = (1 : Int))) (condP (decide (st = (1 : Int))) z3 z0) (condP (decide (st = (2 : Int))) z3 z0))))) := by kernel_rfl
theorem nf_decR (o p : List UInt8) (per : Int) (dev : List UInt8) (num : Int) (R : AV → List (Nat × AObj) → Prop) : wpFn te [(93, .det S_slotR), (68, .det S_nameR)] [] 0 Tryz.f70 [.agg [.str o, .str p, .int .i64 per, .str dev, .int .i64 num]] [] R = (List.length o < 4294967281 ∧ condP (slotF o p per) (List.length dev ≤ 9223372036854775806 ∧ condP (nameF dev) (condP (decide ((1 : Int) ≤ num)) (R (.bool (decide (num ≤ (1048576 : Int)))) []) (R (.bool false) [])) (R (.bool false) [])) (R (.bool false) [])) := by kernel_rfl
theorem nf_msgR (m : MG) (R : AV → List (Nat × AObj) → Prop) : wpFn te [(68, .det S_nameR), (69, .det S_visit), (70, .det S_decR)] [] 0 Tryz.f34 [.agg [.str m.dev, .int .i64 m.seq, .int .i64 m.kind, .str m.v.o, .str m.v.p, .int .i64 m.v.per, .int .i64 m.v.day, .int .i64 m.v.st, .int .i64 m.v.pr, .str m.v.rep, .str m.d.o, .str m.d.p, .int .i64 m.d.per, .str m.d.dev, .int .i64 m.d.num]] [] R = (letI z5 := (MG.kind m = (2 : Int)); letI z4 := (MG.kind m = (1 : Int)); letI z1 := (condP (decide z4) (condP (!(decide (DT.o (MG.d m) = []) && (decide (DT.p (MG.d m) = []) && (decide (DT.per (MG.d m) = (0 : Int)) && (decide (DT.dev (MG.d m) = []) && decide (DT.num (MG.d m) = (0 : Int))))))) (R (.int .i64 114) []) (R (.int .i64 0) [])) (R (.int .i64 0) [])); letI z2 := (condP (decide z5) ((List.length (DT.o (MG.d m)) < 4294967281 ∧ List.length (DT.dev (MG.d m)) < 4294967281) ∧ condP (!(slotF (DT.o (MG.d m)) (DT.p (MG.d m)) (DT.per (MG.d m)) && (nameF (DT.dev (MG.d m)) && numF (DT.num (MG.d m))))) (R (.int .i64 114) []) z1) z1); letI z0 := (condP (decide z5) (condP (!(decide (VT.o (MG.v m) = []) && (decide (VT.p (MG.v m) = []) && (decide (VT.per (MG.v m) = (0 : Int)) && (decide (VT.day (MG.v m) = (0 : Int)) && (decide (VT.st (MG.v m) = (0 : Int)) && (decide (VT.pr (MG.v m) = (0 : Int)) && decide (VT.rep (MG.v m) = [])))))))) (R (.int .i64 113) []) z2) z2); letI z3 := (condP (decide z4) (List.length (VT.o (MG.v m)) < 4294967281 ∧ condP (!visF (VT.mk (VT.o (MG.v m)) (VT.p (MG.v m)) (VT.per (MG.v m)) (VT.day (MG.v m)) (VT.st (MG.v m)) (VT.pr (MG.v m)) (VT.rep (MG.v m)))) (R (.int .i64 113) []) z0) z0); List.length (MG.dev m) ≤ 9223372036854775806 ∧ condP (!nameF (MG.dev m)) (R (.int .i64 110) []) (condP (decide (MG.seq m < (1 : Int))) (R (.int .i64 111) []) (condP (decide ((1048576 : Int) < MG.seq m)) (R (.int .i64 111) []) (condP (!decide z4) (condP (!decide z5) (R (.int .i64 112) []) z3) z3)))) := by kernel_rfl
theorem nf_textR (a b : List UInt8) (R : AV → List (Nat × AObj) → Prop) : wpFn te [] [] 0 Tryz.f104 [.str a, .str b] [] R = (condP (Op.bytesLess a b) (R (.int .i64 (-1 : Int)) []) (condP (!(Op.bytesLess a b || decide (a = b))) (R (.int .i64 1) []) (R (.int .i64 0) []))) := by kernel_rfl
theorem nf_numR (a b : Int) (R : AV → List (Nat × AObj) → Prop) : wpFn te [] [] 0 Tryz.f105 [.int .i64 a, .int .i64 b] [] R = (condP (decide (a < b)) (R (.int .i64 (-1 : Int)) []) (condP (decide (b < a)) (R (.int .i64 1) []) (R (.int .i64 0) []))) := by kernel_rfl
theorem nf_sm (g h : Nat → MG) (n m : Nat) (R : AV → List (Nat × AObj) → Prop) : wpFn te [] [(4, L_sm g h n)] 0 Tryz.f37 [.view 15 n (mgRow g), .view 15 m (mgRow h)] [] R = (condP (!decide ((↑n : Int) = (↑m : Int))) (R (.bool false) []) (some (St.mk [(0, .view 15 n (mgRow g)), (1, .view 15 m (mgRow h)), (12, .int .i64 (↑n : Int)), (13, .int .i64 0)] [] 0 []) = some (St.mk [(0, .view 15 n (mgRow g)), (1, .view 15 n (mgRow h)), (12, .int .i64 (↑n : Int)), (13, .int .i64 (↑0 : Int))] [] 0 []) ∧ n ≤ 1000000 ∧ condP (eqMs g h n) (R (.bool true) []) (R (.bool false) []))) := by kernel_rfl
theorem nf_sm_round (g h : Nat → MG) (n k : Nat) (P : Nat → Prop) (R : Exit → St → Prop) : roundP ⟨te, [], [], 0, 26, 0⟩ (loopB Tryz.f37 4) [0, 1, 12, 13] [] [4] (S_sm g h n) P R (S_sm g h n k) = (letI z0 := (Int.toNat (↑k : Int)); condP (decide ((↑k : Int) < (↑n : Int))) (((0 : Int) ≤ (↑k : Int) ∧ (↑k : Int) < (↑n : Int) ∧ 15 = 15) ∧ ((0 : Int) ≤ (↑k : Int) ∧ (↑k : Int) < (↑n : Int) ∧ 15 = 15) ∧ condP (!(decide (MG.dev (g z0) = MG.dev (h z0)) && (decide (MG.seq (g z0) = MG.seq (h z0)) && (decide (MG.kind (g z0) = MG.kind (h z0)) && (decide (VT.o (MG.v (g z0)) = VT.o (MG.v (h z0))) && (decide (VT.p (MG.v (g z0)) = VT.p (MG.v (h z0))) && (decide (VT.per (MG.v (g z0)) = VT.per (MG.v (h z0))) && (decide (VT.day (MG.v (g z0)) = VT.day (MG.v (h z0))) && (decide (VT.st (MG.v (g z0)) = VT.st (MG.v (h z0))) && (decide (VT.pr (MG.v (g z0)) = VT.pr (MG.v (h z0))) && decide (VT.rep (MG.v (g z0)) = VT.rep (MG.v (h z0)))))))) && (decide (DT.o (MG.d (g z0)) = DT.o (MG.d (h z0))) && (decide (DT.p (MG.d (g z0)) = DT.p (MG.d (h z0))) && (decide (DT.per (MG.d (g z0)) = DT.per (MG.d (h z0))) && (decide (DT.dev (MG.d (g z0)) = DT.dev (MG.d (h z0))) && decide (DT.num (MG.d (g z0)) = DT.num (MG.d (h z0)))))))))))) (R .ret (St.mk [(4, .bool false)] [] 0 [])) (inR .i64 ((↑k : Int) + (1 : Int)) ∧ ∃ (i' : Nat), some (St.mk [(0, .view 15 n (mgRow g)), (1, .view 15 n (mgRow h)), (12, .int .i64 (↑n : Int)), (13, .int .i64 ((↑k : Int) + (1 : Int)))] [] 0 []) = some (St.mk [(0, .view 15 n (mgRow g)), (1, .view 15 n (mgRow h)), (12, .int .i64 (↑n : Int)), (13, .int .i64 (↑i' : Int))] [] 0 []) ∧ P i')) (R (.exit 0) (St.mk [] [] 0 []))) := by kernel_rfl
theorem visitR_ok (hP : C.P = Tryz.prog) : SpecOK C 69 S_visit := by
  rintro args objs U Os vc h hvc
  unfold S_visit at h
  split at h <;> simp only [Option.some.injEq, Prod.mk.injEq, reduceCtorEq] at h
  rename_i o p per day st pr rep
  obtain ⟨rfl, rfl, rfl⟩ := h
  refine SpecOK.wp0 (prg hP) [(93, .det S_slotR), (99, .det S_validID)] 0 (.cons (slotR_ok hP) (.cons (validIDR_ok hP) .nil)) (hP ▸ Tryz.func69) rfl rfl rfl ?_
  rw [nf_visitR]
  refine ⟨hvc, condP_not (fun h1 => ?_) (fun h1 => condP_dec (fun h2 => ?_) (fun h2 => condP_dec (fun h3 => ?_) (fun h3 => ?_)))⟩
  · unfold visF; simp [h1]
  · unfold visF; simp [show ¬ 0 ≤ day by omega]
  · unfold visF; simp [show ¬ day ≤ 182620 by omega]
  have hv : visF ⟨o, p, per, day, st, pr, rep⟩ = (bif decide (st = 1) || decide (st = 2) then decide (1 ≤ pr) && decide (pr ≤ 1099511627776) && decide (rep = [])
    else bif decide (st = 3) || decide (st = 4) then decide (pr = 0) && decide (rep = [])
    else bif decide (st = 5) then decide (1 ≤ pr) && decide (pr ≤ 1099511627776) && validIDF rep && !decide (rep = p) else false) := by
    unfold visF; simp only [h1, Bool.true_and, decide_eq_true (show 0 ≤ day by omega), decide_eq_true (show day ≤ 182620 by omega)]
  rw [hv]
  clear hv h1 h2 h3
  by_cases s1 : st = 1
  · subst s1
    generalize decide (1 ≤ pr) = b1, decide (pr ≤ 1099511627776) = b2, decide (pr = 0) = b3, decide (rep = p) = b4, decide (rep = []) = b5, validIDF rep = b6
    cases b1 <;> cases b2 <;> exact ⟨rfl, rfl⟩
  by_cases s2 : st = 2
  · subst s2
    generalize decide (1 ≤ pr) = b1, decide (pr ≤ 1099511627776) = b2, decide (pr = 0) = b3, decide (rep = p) = b4, decide (rep = []) = b5, validIDF rep = b6
    cases b1 <;> cases b2 <;> exact ⟨rfl, rfl⟩
  by_cases s3 : st = 3
  · subst s3
    generalize decide (1 ≤ pr) = b1, decide (pr ≤ 1099511627776) = b2, decide (pr = 0) = b3, decide (rep = p) = b4, decide (rep = []) = b5, validIDF rep = b6
    cases b3 <;> exact ⟨rfl, rfl⟩
  by_cases s4 : st = 4
  · subst s4
    generalize decide (1 ≤ pr) = b1, decide (pr ≤ 1099511627776) = b2, decide (pr = 0) = b3, decide (rep = p) = b4, decide (rep = []) = b5, validIDF rep = b6
    cases b3 <;> exact ⟨rfl, rfl⟩
  by_cases s5 : st = 5
  · subst s5
    generalize decide (1 ≤ pr) = b1, decide (pr ≤ 1099511627776) = b2, decide (pr = 0) = b3, decide (rep = p) = b4, decide (rep = []) = b5, validIDF rep = b6
    cases b1 <;> cases b2 <;> cases b6 <;> first | exact ⟨rfl, rfl⟩ | exact ⟨trivial, rfl, rfl⟩
  rw [decide_eq_false s1, decide_eq_false s2, decide_eq_false s3, decide_eq_false s4, decide_eq_false s5]
  exact ⟨rfl, rfl⟩
theorem decR_ok (hP : C.P = Tryz.prog) : SpecOK C 70 S_decR := by
  rintro args objs U Os vc h hvc
  unfold S_decR at h
  split at h <;> simp only [Option.some.injEq, Prod.mk.injEq, reduceCtorEq] at h
  rename_i o p per dev num
  obtain ⟨rfl, rfl, rfl⟩ := h
  refine SpecOK.wp0 (prg hP) [(93, .det S_slotR), (68, .det S_nameR)] 0 (.cons (slotR_ok hP) (.cons (nameR_ok hP) .nil)) (hP ▸ Tryz.func70) rfl rfl rfl ?_
  rw [nf_decR]
  unfold numF
  generalize slotF o p per = b1, nameF dev = b2, decide (1 ≤ num) = b3, decide (num ≤ 1048576) = b4
  refine ⟨hvc.1, ?_⟩
  cases b1
  · exact ⟨rfl, rfl⟩
  refine ⟨by omega, ?_⟩
  cases b2 <;> cases b3 <;> exact ⟨rfl, rfl⟩
theorem msgR_ok (hP : C.P = Tryz.prog) : SpecOK C 34 S_msg := by
  rintro args objs U Os vc h hvc
  unfold S_msg at h
  split at h <;> simp only [Option.some.injEq, Prod.mk.injEq, reduceCtorEq] at h
  rename_i dev seq kind o p per day st pr rep o2 p2 per2 dev2 num
  obtain ⟨rfl, rfl, rfl⟩ := h
  refine SpecOK.wp0 (prg hP) [(68, .det S_nameR), (69, .det S_visit), (70, .det S_decR)] 0 (.cons (nameR_ok hP) (.cons (visitR_ok hP) (.cons (decR_ok hP) .nil))) (hP ▸ Tryz.func34) rfl rfl rfl ?_
  have nf := fun R => nf_msgR ⟨dev, seq, kind, ⟨o, p, per, day, st, pr, rep⟩, ⟨o2, p2, per2, dev2, num⟩⟩ R
  refine (nf _).mpr ?_
  clear nf
  obtain ⟨l1, l2, l3, l4⟩ := hvc
  unfold msgF VT.nil DT.nil
  dsimp only
  generalize (decide (o = []) && (decide (p = []) && (decide (per = 0) && (decide (day = 0) && (decide (st = 0) && (decide (pr = 0) && decide (rep = []))))))) = vn
  generalize (decide (o2 = []) && (decide (p2 = []) && (decide (per2 = 0) && (decide (dev2 = []) && decide (num = 0))))) = dn
  generalize nameF dev = b1, visF ⟨o, p, per, day, st, pr, rep⟩ = b3, slotF o2 p2 per2 = b4, nameF dev2 = b5, numF num = b6
  refine ⟨by omega, ?_⟩
  cases b1
  · exact ⟨rfl, rfl⟩
  by_cases s1 : seq < 1
  · rw [show numF seq = false by unfold numF; rw [decide_eq_false (show ¬ 1 ≤ seq by omega)]; rfl, decide_eq_true s1]; exact ⟨rfl, rfl⟩
  by_cases s2 : 1048576 < seq
  · rw [show numF seq = false by unfold numF; rw [decide_eq_false (show ¬ seq ≤ 1048576 by omega), Bool.and_false], decide_eq_false s1, decide_eq_true s2]; exact ⟨rfl, rfl⟩
  rw [show numF seq = true by unfold numF; rw [decide_eq_true (show 1 ≤ seq by omega), decide_eq_true (show seq ≤ 1048576 by omega)]; rfl, decide_eq_false s1, decide_eq_false s2]
  by_cases k1 : kind = 1
  · subst k1
    refine ⟨l2, ?_⟩
    cases b3 <;> cases dn <;> exact ⟨rfl, rfl⟩
  by_cases k2 : kind = 2
  · subst k2
    cases vn
    · exact ⟨rfl, rfl⟩
    refine ⟨⟨l3, l4⟩, ?_⟩
    cases b4 <;> cases b5 <;> cases b6 <;> exact ⟨rfl, rfl⟩
  rw [decide_eq_false k1, decide_eq_false k2]
  exact ⟨rfl, rfl⟩
theorem textR_ok (hP : C.P = Tryz.prog) : SpecOK C 104 S_textR := by
  have _ : C.Loose := inferInstance
  rintro args objs U Os vc h hvc
  unfold S_textR at h
  split at h <;> simp only [Option.some.injEq, Prod.mk.injEq, reduceCtorEq] at h
  rename_i a b
  obtain ⟨rfl, rfl, rfl⟩ := h
  refine SpecOK.wp0 (prg hP) [] 0 .nil (hP ▸ Tryz.func104) rfl rfl rfl ?_
  rw [nf_textR]
  rcases cmpS_val a b with ⟨q, e⟩ | ⟨q, e⟩ | ⟨q, e⟩
  · rw [e, q]; exact ⟨rfl, rfl⟩
  · subst q
    rw [e, bl_self, decide_eq_true rfl]; exact ⟨rfl, rfl⟩
  · have n1 : Op.bytesLess a b = false := by
      cases z : Op.bytesLess a b with
      | false => rfl
      | true => have := cmpS_neg.2 z; omega
    have n2 : decide (a = b) = false := decide_eq_false fun z => by have := cmpS_zero.2 z; omega
    rw [e, n1, n2]; exact ⟨rfl, rfl⟩
theorem numR_ok (hP : C.P = Tryz.prog) : SpecOK C 105 S_numR := by
  have _ : C.Loose := inferInstance
  rintro args objs U Os vc h hvc
  unfold S_numR at h
  split at h <;> simp only [Option.some.injEq, Prod.mk.injEq, reduceCtorEq] at h
  rename_i a b
  obtain ⟨rfl, rfl, rfl⟩ := h
  refine SpecOK.wp0 (prg hP) [] 0 .nil (hP ▸ Tryz.func105) rfl rfl rfl ?_
  rw [nf_numR]
  have e := cmpI_val a b
  refine condP_dec (fun q => ?_) (fun q => condP_dec (fun q2 => ?_) (fun q2 => ?_))
  · rw [show cmpI a b = -1 by omega]; exact ⟨rfl, rfl⟩
  · rw [show cmpI a b = 1 by omega]; exact ⟨rfl, rfl⟩
  · rw [show cmpI a b = 0 by omega]; exact ⟨rfl, rfl⟩
theorem eqMs_stop {g h : Nat → MG} {k : Nat} (e : eqMs g h (k + 1) = false) : ∀ n, k < n → eqMs g h n = false
  | 0, hn => by omega
  | n + 1, hn => by
    by_cases q : k = n
    · subst q; exact e
    · rw [eqMs, eqMs_stop e n (by omega), Bool.false_and]
theorem sm_loop (hP : C.P = Tryz.prog) (g h : Nat → MG) (n : Nat) : LoopOK C 0 26 (loopC Tryz.f37 4) (L_sm g h n) := by
  have _ : C.Loose := inferInstance
  rintro st Q ⟨h0, hn, hQ⟩
  have hR := condP_elim hQ
  refine LoopOK.mk (prg hP) [] 0 .nil [0, 1, 12, 13] [] [4] (S_sm g h n) (fun k => k ≤ n ∧ eqMs g h k = true) (fun k => n - k) 0 ⟨Nat.zero_le _, rfl⟩ h0 (fun k hk => ?_)
  obtain ⟨hkn, hok⟩ := hk
  rw [nf_sm_round, Int.toNat_natCast]
  refine condP_dec (fun h1 => ?_) (fun h1 => ?_)
  · refine ⟨⟨by omega, by omega, rfl⟩, ⟨by omega, by omega, rfl⟩, condP_not (fun h2 => hR.2 (eqMs_stop (k := k) (by rw [eqMs, show eqM (g k) (h k) = false from h2, Bool.and_false]) n (by omega))) (fun h2 => ⟨by simp only [inR]; omega, k + 1, rfl, ⟨by omega, ?_⟩, by omega⟩)⟩
    rw [eqMs, hok]; exact h2
  · have : k = n := by omega
    subst this
    exact hR.1 hok
theorem sameM_ok (hP : C.P = Tryz.prog) : SpecOK C 37 S_sameM := by
  rintro args objs U Os vc h hvc
  unfold S_sameM at h
  split at h <;> simp only [Option.some.injEq, Prod.mk.injEq, reduceCtorEq] at h
  rename_i n f m h'
  obtain ⟨rfl, rfl, rfl⟩ := h
  obtain ⟨hn, hf, hh⟩ := hvc
  generalize mgOf f = g at *
  generalize mgOf h' = g' at *
  subst hf; subst hh
  refine SpecOK.wpL (prg hP) [] [(4, L_sm g g' n)] 0 .nil (hP ▸ Tryz.func37) rfl rfl rfl [(loopC Tryz.f37 4, L_sm g g' n)] (by kernel_rfl) ⟨sm_loop hP g g' n, trivial⟩ ?_
  rw [nf_sm]
  refine condP_ndec (fun h1 => ?_) (fun h1 => ?_)
  · rw [decide_eq_false (show ¬ n = m by omega)]; exact ⟨rfl, rfl⟩
  · have : n = m := by omega
    subst this
    rw [decide_eq_true rfl]
    exact ⟨rfl, hn, condP_intro (fun h2 => by rw [h2]; exact ⟨rfl, rfl⟩) (fun h2 => by rw [h2]; exact ⟨rfl, rfl⟩)⟩
end Go.Eng
