/- The laws of marks and of order. -/
import Derived.Test.YtgcboligphndhaaGreatDoorEy
import Derived.Test.YtgcboligphndhaaGreatDoorEw
import Derived.Test.YtgcboligphndhaaGreatDoorEp
import Derived.Test.YtgcboligphndhaaGreatDoorEs
import Derived.Test.YtgcboligphndhaaGreatDoorEt
namespace Go.Eng
open Go.Proofs Go.RowKit
variable {C : Ctx} [C.Loose]
set_option maxRecDepth 20000
theorem nf_sp11 (n : Nat) (v : Nat → Int) (a : Int) (R : AV → List (Nat × AObj) → Prop) : wpFn te [(36, .rel R_mmsg), (42, .det S_next)] [] 0 Tryz.f60 [.ptr 0 0] [.cells [.view 1 n (intRow v), .int .i64 a] 27] R = (letI z2 := (4611686018427387904 : Int); 27 = 27 ∧ 1 = 1 ∧ intRow v = intRow (vInt (intRow v)) ∧ ((0 : Int) ≤ a ∧ a ≤ (4611686018427385000 : Int)) ∧ ∀ (m : MG) (a' : Int), letI z6 := (nextV n (vInt (intRow v)) (a' + (1 : Int)) (5 : Int)); letI z5 := (nextV n (vInt (intRow v)) (a' + (1 : Int)) (2 : Int)); letI z3 := (nextV n (vInt (intRow v)) (a' + (1 : Int)) (3 : Int)); letI z1 := (nextV n (vInt (intRow v)) (a' + (1 : Int)) (4 : Int)); letI z4 := Int.toNat z1 < 4 ∧ 1 = 1; letI z0 := ([(0, .cells [.view 1 n (intRow v), .int .i64 (a' + (1 : Int) + (1 : Int))] 27)] : List (Nat × AObj)); MG.Made m → a ≤ a' ∧ a' ≤ a + (10 : Int) → (27 = 27 ∧ 1 = 1 ∧ intRow v = intRow (vInt (intRow v)) ∧ ((1 : Int) ≤ (16 : Int) ∧ (16 : Int) ≤ (1000000 : Int)) ∧ (0 : Int) ≤ a' ∧ a' ≤ z2) ∧ condP (decide (nextV n (vInt (intRow v)) a' (16 : Int) = (0 : Int))) ((4 ≤ 16777216 ∧ 1 = 1 ∧ 4 ≤ 9223372036854775807) ∧ (27 = 27 ∧ 1 = 1 ∧ intRow v = intRow (vInt (intRow v)) ∧ ((1 : Int) ≤ (4 : Int) ∧ (4 : Int) ≤ (1000000 : Int)) ∧ (0 : Int) ≤ a' + (1 : Int) ∧ a' + (1 : Int) ≤ z2) ∧ ((0 : Int) ≤ nextV n (vInt (intRow v)) (a' + (1 : Int)) (4 : Int) ∧ nextV n (vInt (intRow v)) (a' + (1 : Int)) (4 : Int) < (↑4 : Int)) ∧ z4 ∧ (True ∧ True) ∧ R (.agg [.str (List.getD [[], [(65 : UInt8)], [(97 : UInt8), 32, 98], [(97 : UInt8), 98, 99, 100, 101, 102, 103, 104, 105, 106, 107, 108, 109, 110, 111, 112, 113, 114, 115, 116, 117, 118, 119, 120, 121]] (Int.toNat z1) []), .int .i64 (MG.seq m), .int .i64 (MG.kind m), .str (VT.o (MG.v m)), .str (VT.p (MG.v m)), .int .i64 (VT.per (MG.v m)), .int .i64 (VT.day (MG.v m)), .int .i64 (VT.st (MG.v m)), .int .i64 (VT.pr (MG.v m)), .str (VT.rep (MG.v m)), .str (DT.o (MG.d m)), .str (DT.p (MG.d m)), .int .i64 (DT.per (MG.d m)), .str (DT.dev (MG.d m)), .int .i64 (DT.num (MG.d m))]) z0) (condP (decide (nextV n (vInt (intRow v)) a' (16 : Int) = (1 : Int))) ((4 ≤ 16777216 ∧ 1 = 1 ∧ 4 ≤ 9223372036854775807) ∧ (27 = 27 ∧ 1 = 1 ∧ intRow v = intRow (vInt (intRow v)) ∧ ((1 : Int) ≤ (4 : Int) ∧ (4 : Int) ≤ (1000000 : Int)) ∧ (0 : Int) ≤ a' + (1 : Int) ∧ a' + (1 : Int) ≤ z2) ∧ ((0 : Int) ≤ nextV n (vInt (intRow v)) (a' + (1 : Int)) (4 : Int) ∧ nextV n (vInt (intRow v)) (a' + (1 : Int)) (4 : Int) < (↑4 : Int)) ∧ z4 ∧ (True ∧ True) ∧ R (.agg [.str (MG.dev m), .int .i64 (List.getD [(0 : Int), (-1 : Int), (1048576 : Int), (1048577 : Int)] (Int.toNat z1) (0 : Int)), .int .i64 (MG.kind m), .str (VT.o (MG.v m)), .str (VT.p (MG.v m)), .int .i64 (VT.per (MG.v m)), .int .i64 (VT.day (MG.v m)), .int .i64 (VT.st (MG.v m)), .int .i64 (VT.pr (MG.v m)), .str (VT.rep (MG.v m)), .str (DT.o (MG.d m)), .str (DT.p (MG.d m)), .int .i64 (DT.per (MG.d m)), .str (DT.dev (MG.d m)), .int .i64 (DT.num (MG.d m))]) z0) (condP (decide (nextV n (vInt (intRow v)) a' (16 : Int) = (2 : Int))) ((27 = 27 ∧ 1 = 1 ∧ intRow v = intRow (vInt (intRow v)) ∧ ((1 : Int) ≤ (4 : Int) ∧ (4 : Int) ≤ (1000000 : Int)) ∧ (0 : Int) ≤ a' + (1 : Int) ∧ a' + (1 : Int) ≤ z2) ∧ (True ∧ True) ∧ R (.agg [.str (MG.dev m), .int .i64 (MG.seq m), .int .i64 z1, .str (VT.o (MG.v m)), .str (VT.p (MG.v m)), .int .i64 (VT.per (MG.v m)), .int .i64 (VT.day (MG.v m)), .int .i64 (VT.st (MG.v m)), .int .i64 (VT.pr (MG.v m)), .str (VT.rep (MG.v m)), .str (DT.o (MG.d m)), .str (DT.p (MG.d m)), .int .i64 (DT.per (MG.d m)), .str (DT.dev (MG.d m)), .int .i64 (DT.num (MG.d m))]) z0) (condP (decide (nextV n (vInt (intRow v)) a' (16 : Int) = (3 : Int))) ((2 ≤ 16777216 ∧ 1 = 1 ∧ 2 ≤ 9223372036854775807) ∧ (27 = 27 ∧ 1 = 1 ∧ intRow v = intRow (vInt (intRow v)) ∧ ((1 : Int) ≤ (2 : Int) ∧ (2 : Int) ≤ (1000000 : Int)) ∧ (0 : Int) ≤ a' + (1 : Int) ∧ a' + (1 : Int) ≤ z2) ∧ ((0 : Int) ≤ nextV n (vInt (intRow v)) (a' + (1 : Int)) (2 : Int) ∧ nextV n (vInt (intRow v)) (a' + (1 : Int)) (2 : Int) < (↑2 : Int)) ∧ (Int.toNat z5 < 2 ∧ 1 = 1) ∧ (True ∧ True) ∧ R (.agg [.str (MG.dev m), .int .i64 (MG.seq m), .int .i64 (MG.kind m), .str (List.getD [[], [(120 : UInt8), 32, 121]] (Int.toNat z5) []), .str (VT.p (MG.v m)), .int .i64 (VT.per (MG.v m)), .int .i64 (VT.day (MG.v m)), .int .i64 (VT.st (MG.v m)), .int .i64 (VT.pr (MG.v m)), .str (VT.rep (MG.v m)), .str (DT.o (MG.d m)), .str (DT.p (MG.d m)), .int .i64 (DT.per (MG.d m)), .str (DT.dev (MG.d m)), .int .i64 (DT.num (MG.d m))]) z0) (condP (decide (nextV n (vInt (intRow v)) a' (16 : Int) = (4 : Int))) ((3 ≤ 16777216 ∧ 1 = 1 ∧ 3 ≤ 9223372036854775807) ∧ (27 = 27 ∧ 1 = 1 ∧ intRow v = intRow (vInt (intRow v)) ∧ ((1 : Int) ≤ (3 : Int) ∧ (3 : Int) ≤ (1000000 : Int)) ∧ (0 : Int) ≤ a' + (1 : Int) ∧ a' + (1 : Int) ≤ z2) ∧ ((0 : Int) ≤ nextV n (vInt (intRow v)) (a' + (1 : Int)) (3 : Int) ∧ nextV n (vInt (intRow v)) (a' + (1 : Int)) (3 : Int) < (↑3 : Int)) ∧ (Int.toNat z3 < 3 ∧ 1 = 1) ∧ (True ∧ True) ∧ R (.agg [.str (MG.dev m), .int .i64 (MG.seq m), .int .i64 (MG.kind m), .str (VT.o (MG.v m)), .str (List.getD [[], [(49 : UInt8), 50, 51, 52, 53, 54, 55, 56], [(57 : UInt8), 54, 51, 56, 53, 48, 55, 52]] (Int.toNat z3) []), .int .i64 (VT.per (MG.v m)), .int .i64 (VT.day (MG.v m)), .int .i64 (VT.st (MG.v m)), .int .i64 (VT.pr (MG.v m)), .str (VT.rep (MG.v m)), .str (DT.o (MG.d m)), .str (DT.p (MG.d m)), .int .i64 (DT.per (MG.d m)), .str (DT.dev (MG.d m)), .int .i64 (DT.num (MG.d m))]) z0) (condP (decide (nextV n (vInt (intRow v)) a' (16 : Int) = (5 : Int))) ((4 ≤ 16777216 ∧ 1 = 1 ∧ 4 ≤ 9223372036854775807) ∧ (27 = 27 ∧ 1 = 1 ∧ intRow v = intRow (vInt (intRow v)) ∧ ((1 : Int) ≤ (4 : Int) ∧ (4 : Int) ≤ (1000000 : Int)) ∧ (0 : Int) ≤ a' + (1 : Int) ∧ a' + (1 : Int) ≤ z2) ∧ ((0 : Int) ≤ nextV n (vInt (intRow v)) (a' + (1 : Int)) (4 : Int) ∧ nextV n (vInt (intRow v)) (a' + (1 : Int)) (4 : Int) < (↑4 : Int)) ∧ z4 ∧ (True ∧ True) ∧ R (.agg [.str (MG.dev m), .int .i64 (MG.seq m), .int .i64 (MG.kind m), .str (VT.o (MG.v m)), .str (VT.p (MG.v m)), .int .i64 (List.getD [(-1 : Int), (0 : Int), (5999 : Int), (6000 : Int)] (Int.toNat z1) (0 : Int)), .int .i64 (VT.day (MG.v m)), .int .i64 (VT.st (MG.v m)), .int .i64 (VT.pr (MG.v m)), .str (VT.rep (MG.v m)), .str (DT.o (MG.d m)), .str (DT.p (MG.d m)), .int .i64 (DT.per (MG.d m)), .str (DT.dev (MG.d m)), .int .i64 (DT.num (MG.d m))]) z0) (condP (decide (nextV n (vInt (intRow v)) a' (16 : Int) = (6 : Int))) ((4 ≤ 16777216 ∧ 1 = 1 ∧ 4 ≤ 9223372036854775807) ∧ (27 = 27 ∧ 1 = 1 ∧ intRow v = intRow (vInt (intRow v)) ∧ ((1 : Int) ≤ (4 : Int) ∧ (4 : Int) ≤ (1000000 : Int)) ∧ (0 : Int) ≤ a' + (1 : Int) ∧ a' + (1 : Int) ≤ z2) ∧ ((0 : Int) ≤ nextV n (vInt (intRow v)) (a' + (1 : Int)) (4 : Int) ∧ nextV n (vInt (intRow v)) (a' + (1 : Int)) (4 : Int) < (↑4 : Int)) ∧ z4 ∧ (True ∧ True) ∧ R (.agg [.str (MG.dev m), .int .i64 (MG.seq m), .int .i64 (MG.kind m), .str (VT.o (MG.v m)), .str (VT.p (MG.v m)), .int .i64 (VT.per (MG.v m)), .int .i64 (List.getD [(-1 : Int), (0 : Int), (182620 : Int), (182621 : Int)] (Int.toNat z1) (0 : Int)), .int .i64 (VT.st (MG.v m)), .int .i64 (VT.pr (MG.v m)), .str (VT.rep (MG.v m)), .str (DT.o (MG.d m)), .str (DT.p (MG.d m)), .int .i64 (DT.per (MG.d m)), .str (DT.dev (MG.d m)), .int .i64 (DT.num (MG.d m))]) z0) (condP (decide (nextV n (vInt (intRow v)) a' (16 : Int) = (7 : Int))) ((27 = 27 ∧ 1 = 1 ∧ intRow v = intRow (vInt (intRow v)) ∧ ((1 : Int) ≤ (7 : Int) ∧ (7 : Int) ≤ (1000000 : Int)) ∧ (0 : Int) ≤ a' + (1 : Int) ∧ a' + (1 : Int) ≤ z2) ∧ (True ∧ True) ∧ R (.agg [.str (MG.dev m), .int .i64 (MG.seq m), .int .i64 (MG.kind m), .str (VT.o (MG.v m)), .str (VT.p (MG.v m)), .int .i64 (VT.per (MG.v m)), .int .i64 (VT.day (MG.v m)), .int .i64 (nextV n (vInt (intRow v)) (a' + (1 : Int)) (7 : Int)), .int .i64 (VT.pr (MG.v m)), .str (VT.rep (MG.v m)), .str (DT.o (MG.d m)), .str (DT.p (MG.d m)), .int .i64 (DT.per (MG.d m)), .str (DT.dev (MG.d m)), .int .i64 (DT.num (MG.d m))]) z0) (condP (decide (nextV n (vInt (intRow v)) a' (16 : Int) = (8 : Int))) ((5 ≤ 16777216 ∧ 1 = 1 ∧ 5 ≤ 9223372036854775807) ∧ (27 = 27 ∧ 1 = 1 ∧ intRow v = intRow (vInt (intRow v)) ∧ ((1 : Int) ≤ (5 : Int) ∧ (5 : Int) ≤ (1000000 : Int)) ∧ (0 : Int) ≤ a' + (1 : Int) ∧ a' + (1 : Int) ≤ z2) ∧ ((0 : Int) ≤ nextV n (vInt (intRow v)) (a' + (1 : Int)) (5 : Int) ∧ nextV n (vInt (intRow v)) (a' + (1 : Int)) (5 : Int) < (↑5 : Int)) ∧ (Int.toNat z6 < 5 ∧ 1 = 1) ∧ (True ∧ True) ∧ R (.agg [.str (MG.dev m), .int .i64 (MG.seq m), .int .i64 (MG.kind m), .str (VT.o (MG.v m)), .str (VT.p (MG.v m)), .int .i64 (VT.per (MG.v m)), .int .i64 (VT.day (MG.v m)), .int .i64 (VT.st (MG.v m)), .int .i64 (List.getD [(-1 : Int), (0 : Int), (1 : Int), (1099511627776 : Int), (1099511627777 : Int)] (Int.toNat z6) (0 : Int)), .str (VT.rep (MG.v m)), .str (DT.o (MG.d m)), .str (DT.p (MG.d m)), .int .i64 (DT.per (MG.d m)), .str (DT.dev (MG.d m)), .int .i64 (DT.num (MG.d m))]) z0) (condP (decide (nextV n (vInt (intRow v)) a' (16 : Int) = (9 : Int))) ((4 ≤ 16777216 ∧ 1 = 1 ∧ 4 ≤ 9223372036854775807) ∧ (27 = 27 ∧ 1 = 1 ∧ intRow v = intRow (vInt (intRow v)) ∧ ((1 : Int) ≤ (4 : Int) ∧ (4 : Int) ≤ (1000000 : Int)) ∧ (0 : Int) ≤ a' + (1 : Int) ∧ a' + (1 : Int) ≤ z2) ∧ ((0 : Int) ≤ nextV n (vInt (intRow v)) (a' + (1 : Int)) (4 : Int) ∧ nextV n (vInt (intRow v)) (a' + (1 : Int)) (4 : Int) < (↑4 : Int)) ∧ z4 ∧ (True ∧ True) ∧ R (.agg [.str (MG.dev m), .int .i64 (MG.seq m), .int .i64 (MG.kind m), .str (VT.o (MG.v m)), .str (VT.p (MG.v m)), .int .i64 (VT.per (MG.v m)), .int .i64 (VT.day (MG.v m)), .int .i64 (VT.st (MG.v m)), .int .i64 (VT.pr (MG.v m)), .str (List.getD [[], [(49 : UInt8), 50, 51, 52, 53, 54, 55, 56], [(57 : UInt8), 54, 51, 56, 53, 48, 55, 52], VT.p (MG.v m)] (Int.toNat z1) []), .str (DT.o (MG.d m)), .str (DT.p (MG.d m)), .int .i64 (DT.per (MG.d m)), .str (DT.dev (MG.d m)), .int .i64 (DT.num (MG.d m))]) z0) (condP (decide (nextV n (vInt (intRow v)) a' (16 : Int) = (10 : Int))) ((4 ≤ 16777216 ∧ 1 = 1 ∧ 4 ≤ 9223372036854775807) ∧ (27 = 27 ∧ 1 = 1 ∧ intRow v = intRow (vInt (intRow v)) ∧ ((1 : Int) ≤ (4 : Int) ∧ (4 : Int) ≤ (1000000 : Int)) ∧ (0 : Int) ≤ a' + (1 : Int) ∧ a' + (1 : Int) ≤ z2) ∧ ((0 : Int) ≤ nextV n (vInt (intRow v)) (a' + (1 : Int)) (4 : Int) ∧ nextV n (vInt (intRow v)) (a' + (1 : Int)) (4 : Int) < (↑4 : Int)) ∧ z4 ∧ (True ∧ True) ∧ R (.agg [.str (MG.dev m), .int .i64 (MG.seq m), .int .i64 (MG.kind m), .str (VT.o (MG.v m)), .str (VT.p (MG.v m)), .int .i64 (VT.per (MG.v m)), .int .i64 (VT.day (MG.v m)), .int .i64 (VT.st (MG.v m)), .int .i64 (VT.pr (MG.v m)), .str (VT.rep (MG.v m)), .str (DT.o (MG.d m)), .str (DT.p (MG.d m)), .int .i64 (DT.per (MG.d m)), .str (DT.dev (MG.d m)), .int .i64 (List.getD [(0 : Int), (1 : Int), (1048576 : Int), (1048577 : Int)] (Int.toNat z1) (0 : Int))]) z0) (condP (decide (nextV n (vInt (intRow v)) a' (16 : Int) = (11 : Int))) ((3 ≤ 16777216 ∧ 1 = 1 ∧ 3 ≤ 9223372036854775807) ∧ (27 = 27 ∧ 1 = 1 ∧ intRow v = intRow (vInt (intRow v)) ∧ ((1 : Int) ≤ (3 : Int) ∧ (3 : Int) ≤ (1000000 : Int)) ∧ (0 : Int) ≤ a' + (1 : Int) ∧ a' + (1 : Int) ≤ z2) ∧ ((0 : Int) ≤ nextV n (vInt (intRow v)) (a' + (1 : Int)) (3 : Int) ∧ nextV n (vInt (intRow v)) (a' + (1 : Int)) (3 : Int) < (↑3 : Int)) ∧ (Int.toNat z3 < 3 ∧ 1 = 1) ∧ (True ∧ True) ∧ R (.agg [.str (MG.dev m), .int .i64 (MG.seq m), .int .i64 (MG.kind m), .str (VT.o (MG.v m)), .str (VT.p (MG.v m)), .int .i64 (VT.per (MG.v m)), .int .i64 (VT.day (MG.v m)), .int .i64 (VT.st (MG.v m)), .int .i64 (VT.pr (MG.v m)), .str (VT.rep (MG.v m)), .str (DT.o (MG.d m)), .str (DT.p (MG.d m)), .int .i64 (DT.per (MG.d m)), .str (List.getD [[], [(45 : UInt8)], [(98 : UInt8)]] (Int.toNat z3) []), .int .i64 (DT.num (MG.d m))]) z0) ((True ∧ True) ∧ R (.agg [.str (MG.dev m), .int .i64 (MG.seq m), .int .i64 (MG.kind m), .str (VT.o (MG.v m)), .str (VT.p (MG.v m)), .int .i64 (VT.per (MG.v m)), .int .i64 (VT.day (MG.v m)), .int .i64 (VT.st (MG.v m)), .int .i64 (VT.pr (MG.v m)), .str (VT.rep (MG.v m)), .str (DT.o (MG.d m)), .str (DT.p (MG.d m)), .int .i64 (DT.per (MG.d m)), .str (DT.dev (MG.d m)), .int .i64 (DT.num (MG.d m))]) [(0, .cells [.view 1 n (intRow v), .int .i64 (a' + (1 : Int))] 27)]))))))))))))) := by kernel_rfl
theorem nf_list (n : Nat) (v : Nat → Int) (a : Int) (R : AV → List (Nat × AObj) → Prop) : wpFn te [(59, .rel R_msgs), (42, .det S_next), (60, .rel R_sp11)] [(3, L_li n v)] 0 Tryz.f15 [.ptr 0 0] [.cells [.view 1 n (intRow v), .int .i64 a] 27] R = (letI z5 := (4611686018427387904 : Int); 27 = 27 ∧ 1 = 1 ∧ intRow v = intRow (vInt (intRow v)) ∧ ((0 : Int) ≤ a ∧ a ≤ (4611686018427370000 : Int)) ∧ ((0 : Int) ≤ (9 : Int) ∧ (9 : Int) ≤ (90 : Int)) ∧ ∀ (c : Nat) (g : Nat → MG) (a' : Int), c ≤ Int.toNat (9 : Int) → a ≤ a' ∧ a' ≤ a + (1000 : Int) → (∀ (j : Nat), j < c → MG.Made (g j)) → (∀ (i : Nat), i < c → true = true) ∧ (27 = 27 ∧ 1 = 1 ∧ intRow v = intRow (vInt (intRow v)) ∧ ((1 : Int) ≤ (3 : Int) ∧ (3 : Int) ≤ (1000000 : Int)) ∧ (0 : Int) ≤ a' ∧ a' ≤ z5) ∧ ∃ (N : Int), ∃ (c_1 : Nat), ∃ (g_1 : Nat → MG), ∃ (a : Int), letI z4 := LiS.mk 0 c_1 g_1 a; (TEq [(0, .ptr 0 0), (3, .own 1 c), (7, .int .i64 (nextV n (vInt (intRow v)) a' (3 : Int))), (8, .int .i64 0)] [(0, .ptr 0 0), (3, .own 1 (LiS.c z4)), (7, .int .i64 N), (8, .int .i64 (↑(LiS.j z4) : Int))] ∧ RowsEq [(0, .cells [.view 1 n (intRow v), .int .i64 (a' + (1 : Int))] 27), (1, .row 40 15 c (mgRow g) false)] [(0, .cells [.view 1 n (intRow v), .int .i64 (LiS.a z4)] 27), (1, .row 40 15 (LiS.c z4) (mgRow (LiS.g z4)) false)]) ∧ ((0 : Int) ≤ N ∧ N ≤ (2 : Int)) ∧ c_1 ≤ 9 ∧ ((0 : Int) ≤ a ∧ a ≤ (4611686018427365000 : Int)) ∧ (∀ (j : Nat), j < c_1 → MG.Sm (g_1 j)) ∧ ∀ (i : LiS), letI z3 := (LiS.a i + (1 : Int)); letI z2 := (↑(LiS.c i) : Int); letI z0 := (LiS.g i (Int.toNat (nextV n (vInt (intRow v)) z3 z2))); letI z1 := chunkA (TI.sz shrtE0) (.str (MG.dev z0) :: .int .i64 (MG.seq z0) :: .int .i64 (MG.kind z0) :: .str (VT.o (MG.v z0)) :: .str (VT.p (MG.v z0)) :: .int .i64 (VT.per (MG.v z0)) :: .int .i64 (VT.day (MG.v z0)) :: .int .i64 (VT.st (MG.v z0)) :: .int .i64 (VT.pr (MG.v z0)) :: .str (VT.rep (MG.v z0)) :: .str (DT.o (MG.d z0)) :: .str (DT.p (MG.d z0)) :: .int .i64 (DT.per (MG.d z0)) :: .str (DT.dev (MG.d z0)) :: .int .i64 (DT.num (MG.d z0)) :: List.append [] shrtE1); LiS.c i = c_1 + Int.toNat N → a ≤ LiS.a i ∧ LiS.a i ≤ a + (24 : Int) → (∀ (j : Nat), j < LiS.c i → MG.Sm (LiS.g i j)) → condP (decide ((0 : Int) < z2)) ((27 = 27 ∧ 1 = 1 ∧ intRow v = intRow (vInt (intRow v)) ∧ ((1 : Int) ≤ (2 : Int) ∧ (2 : Int) ≤ (1000000 : Int)) ∧ (0 : Int) ≤ LiS.a i ∧ LiS.a i ≤ z5) ∧ condP (decide (nextV n (vInt (intRow v)) (LiS.a i) (2 : Int) = (0 : Int))) ((27 = 27 ∧ 1 = 1 ∧ intRow v = intRow (vInt (intRow v)) ∧ ((1 : Int) ≤ z2 ∧ z2 ≤ (1000000 : Int)) ∧ (0 : Int) ≤ LiS.a i + (1 : Int) ∧ LiS.a i + (1 : Int) ≤ z5) ∧ ((0 : Int) ≤ nextV n (vInt (intRow v)) z3 z2 ∧ nextV n (vInt (intRow v)) z3 z2 < z2) ∧ (Int.toNat (nextV n (vInt (intRow v)) z3 z2) < LiS.c i ∧ 15 = 15) ∧ (15 ≤ 16777216 ∧ 15 = 15 ∧ 1 ≤ 9223372036854775807) ∧ ((1 ≤ 1 ∧ 15 = 15) ∧ LiS.c i ≤ LiS.c i ∧ 15 = 15 ∧ 40 = 40 ∧ 15 = 15 ∧ LiS.c i + 1 ≤ 9223372036854775807 ∧ (LiS.c i + 1) * TI.bytes shrtE0 ≤ 140737488355328) ∧ (∀ (i_1 : Nat), i_1 < LiS.c i + 1 → nrefL (apF (LiS.c i) (mgRow (LiS.g i)) z1 i_1) = true) ∧ ∃ (O' : List (Nat × AObj)), RowsEq [(0, .cells [.view 1 n (intRow v), .int .i64 (LiS.a i + (1 : Int) + (1 : Int))] 27), (1, .row 40 15 (LiS.c i + 1) (apF (LiS.c i) (mgRow (LiS.g i)) z1) false)] O' ∧ R (.own 1 (LiS.c i + 1)) O') ((∀ (i_1 : Nat), i_1 < LiS.c i → true = true) ∧ ∃ (O' : List (Nat × AObj)), RowsEq [(0, .cells [.view 1 n (intRow v), .int .i64 z3] 27), (1, .row 40 15 (LiS.c i) (mgRow (LiS.g i)) false)] O' ∧ R (.own 1 (LiS.c i)) O')) ((∀ (i_1 : Nat), i_1 < LiS.c i → true = true) ∧ ∃ (O' : List (Nat × AObj)), RowsEq [(0, .cells [.view 1 n (intRow v), .int .i64 (LiS.a i)] 27), (1, .row 40 15 (LiS.c i) (mgRow (LiS.g i)) false)] O' ∧ R (.own 1 (LiS.c i)) O')) := by kernel_rfl
theorem nf_li_round (n : Nat) (v : Nat → Int) (N : Int) (i : LiS) (P : LiS → Prop) (R : Exit → St → Prop) : roundP ⟨te, [(60, .rel R_sp11)], [], 1, 35, 0⟩ (loopB Tryz.f15 3) [0, 3, 7, 8] [0, 3] [] (S_li n v N) P R (S_li n v N i) = (condP (decide ((↑(LiS.j i) : Int) < N)) (27 = 27 ∧ 1 = 1 ∧ intRow v = intRow (vInt (intRow v)) ∧ ((0 : Int) ≤ LiS.a i ∧ LiS.a i ≤ (4611686018427380000 : Int)) ∧ ∀ (m : MG) (a' : Int), MG.Sm m → LiS.a i ≤ a' ∧ a' ≤ LiS.a i + (12 : Int) → (15 ≤ 16777216 ∧ 15 = 15 ∧ 1 ≤ 9223372036854775807) ∧ ((1 ≤ 1 ∧ 15 = 15) ∧ LiS.c i ≤ LiS.c i ∧ 15 = 15 ∧ 40 = 40 ∧ 15 = 15 ∧ LiS.c i + 1 ≤ 9223372036854775807 ∧ (LiS.c i + 1) * TI.bytes shrtE0 ≤ 140737488355328) ∧ inR .i64 ((↑(LiS.j i) : Int) + (1 : Int)) ∧ ∃ (i' : LiS), (TEq [(0, .ptr 0 0), (3, .own 1 (LiS.c i + 1)), (7, .int .i64 N), (8, .int .i64 ((↑(LiS.j i) : Int) + (1 : Int)))] [(0, .ptr 0 0), (3, .own 1 (LiS.c i')), (7, .int .i64 N), (8, .int .i64 (↑(LiS.j i') : Int))] ∧ RowsEq [(0, .cells [.view 1 n (intRow v), .int .i64 a'] 27), (1, .row 40 15 (LiS.c i + 1) (apF (LiS.c i) (mgRow (LiS.g i)) (chunkA (TI.sz shrtE0) (.str (MG.dev m) :: .int .i64 (MG.seq m) :: .int .i64 (MG.kind m) :: .str (VT.o (MG.v m)) :: .str (VT.p (MG.v m)) :: .int .i64 (VT.per (MG.v m)) :: .int .i64 (VT.day (MG.v m)) :: .int .i64 (VT.st (MG.v m)) :: .int .i64 (VT.pr (MG.v m)) :: .str (VT.rep (MG.v m)) :: .str (DT.o (MG.d m)) :: .str (DT.p (MG.d m)) :: .int .i64 (DT.per (MG.d m)) :: .str (DT.dev (MG.d m)) :: .int .i64 (DT.num (MG.d m)) :: List.append [] shrtE1))) false)] [(0, .cells [.view 1 n (intRow v), .int .i64 (LiS.a i')] 27), (1, .row 40 15 (LiS.c i') (mgRow (LiS.g i')) false)]) ∧ P i') ((∀ (i_1 : Nat), i_1 < LiS.c i → true = true) ∧ ∃ (O' : List (Nat × AObj)), RowsEq [(0, .cells [.view 1 n (intRow v), .int .i64 (LiS.a i)] 27), (1, .row 40 15 (LiS.c i) (mgRow (LiS.g i)) false)] O' ∧ R (.exit 0) (St.mk [(0, .ptr 0 0), (3, .own 1 (LiS.c i))] O' 2 []))) := by kernel_rfl
theorem nf_turned (n : Nat) (v : Nat → Int) (a : Int) (g : Nat → MG) (c : Nat) (R : AV → List (Nat × AObj) → Prop) : wpFn te [(42, .det S_next)] [(3, L_tr n v a g c)] 0 Tryz.f23 [.ptr 0 0, .view 15 c (mgRow g)] [.cells [.view 1 n (intRow v), .int .i64 a] 27] R = ((TEq [(0, .ptr 0 0), (5, .own 1 0), (10, .view 15 c (mgRow g)), (11, .int .i64 (↑c : Int)), (12, .int .i64 0)] [(0, .ptr 0 0), (5, .own 1 0), (10, .view 15 c (mgRow g)), (11, .int .i64 (↑c : Int)), (12, .int .i64 (↑(TrS.k (TrS.mk 0 [] a)) : Int))] ∧ RowsEq [(0, .cells [.view 1 n (intRow v), .int .i64 a] 27), (1, .row 40 15 0 (fun (_x : Nat) => []) false)] [(0, .cells [.view 1 n (intRow v), .int .i64 (TrS.a (TrS.mk 0 [] a))] 27), (1, .row 40 15 0 (mgRow (atM (TrS.L (TrS.mk 0 [] a)))) false)]) ∧ c ≤ 100 ∧ ((0 : Int) ≤ a ∧ a ≤ (4611686018427365000 : Int)) ∧ ∀ (i : TrS), List.length (TrS.L i) ≤ 2 * c → a ≤ TrS.a i ∧ TrS.a i ≤ a + (2 : Int) * (↑c : Int) → (∀ (x : MG), x ∈ TrS.L i ↔ x ∈ lst g c) → (∀ (i_1 : Nat), i_1 < List.length (TrS.L i) → true = true) ∧ ∃ (O' : List (Nat × AObj)), RowsEq [(0, .cells [.view 1 n (intRow v), .int .i64 (TrS.a i)] 27), (1, .row 40 15 (List.length (TrS.L i)) (mgRow (atM (TrS.L i))) false)] O' ∧ R (.own 1 (List.length (TrS.L i))) O') := by kernel_rfl
theorem nf_tr_round (n : Nat) (v : Nat → Int) (g : Nat → MG) (c : Nat) (i : TrS) (P : TrS → Prop) (R : Exit → St → Prop) : roundP ⟨te, [(42, .det S_next)], [], 1, 43, 0⟩ (loopB Tryz.f23 3) [0, 5, 10, 11, 12] [5] [] (S_tr n v g c) P R (S_tr n v g c i) = (letI z9 := List.length (TrS.L i); letI z8 := ([.view 1 n (intRow v), .int .i64 (TrS.a i + (1 : Int) + (1 : Int))] : List AV); letI z7 := (↑(TrS.k i) : Int); letI z6 := (↑z9 : Int); letI z3 := (g (Int.toNat z7)); letI z2 := (chunkA (TI.sz shrtE0) (.str (MG.dev z3) :: .int .i64 (MG.seq z3) :: .int .i64 (MG.kind z3) :: .str (VT.o (MG.v z3)) :: .str (VT.p (MG.v z3)) :: .int .i64 (VT.per (MG.v z3)) :: .int .i64 (VT.day (MG.v z3)) :: .int .i64 (VT.st (MG.v z3)) :: .int .i64 (VT.pr (MG.v z3)) :: .str (VT.rep (MG.v z3)) :: .str (DT.o (MG.d z3)) :: .str (DT.p (MG.d z3)) :: .int .i64 (DT.per (MG.d z3)) :: .str (DT.dev (MG.d z3)) :: .int .i64 (DT.num (MG.d z3)) :: List.append [] shrtE1)); letI z0 := (nextV n (vInt (intRow v)) (TrS.a i) (z6 + (1 : Int))); letI z5 := List.length (TrS.L i) - Int.toNat z0; letI z1 := (apF (0 + Int.toNat z0 + 1) (apF (0 + Int.toNat z0) (apF 0 (chunkA (TI.sz shrtE0) (List.flatten (List.replicate 0 [.str ([]), .int .i64 0, .int .i64 0, .str ([]), .str ([]), .int .i64 0, .int .i64 0, .int .i64 0, .int .i64 0, .str ([]), .str ([]), .str ([]), .int .i64 0, .str ([]), .int .i64 0]))) (mgRow (atM (TrS.L i)))) z2) fun (i_1 : Nat) => letI z4 := atM (TrS.L i) (Int.toNat z0 + i_1); [.str (MG.dev z4), .int .i64 (MG.seq z4), .int .i64 (MG.kind z4), .str (VT.o (MG.v z4)), .str (VT.p (MG.v z4)), .int .i64 (VT.per (MG.v z4)), .int .i64 (VT.day (MG.v z4)), .int .i64 (VT.st (MG.v z4)), .int .i64 (VT.pr (MG.v z4)), .str (VT.rep (MG.v z4)), .str (DT.o (MG.d z4)), .str (DT.p (MG.d z4)), .int .i64 (DT.per (MG.d z4)), .str (DT.dev (MG.d z4)), .int .i64 (DT.num (MG.d z4))]); condP (decide (z7 < (↑c : Int))) (((0 : Int) ≤ z7 ∧ z7 < (↑c : Int) ∧ 15 = 15) ∧ inR .i64 (z6 + (1 : Int)) ∧ (27 = 27 ∧ 1 = 1 ∧ intRow v = intRow (vInt (intRow v)) ∧ ((1 : Int) ≤ z6 + (1 : Int) ∧ z6 + (1 : Int) ≤ (1000000 : Int)) ∧ (0 : Int) ≤ TrS.a i ∧ TrS.a i ≤ (4611686018427387904 : Int)) ∧ (0 ≤ 16777216 ∧ 15 = 15 ∧ 0 ≤ 9223372036854775807) ∧ ((0 : Int) ≤ nextV n (vInt (intRow v)) (TrS.a i) (z6 + (1 : Int)) ∧ nextV n (vInt (intRow v)) (TrS.a i) (z6 + (1 : Int)) ≤ z6) ∧ ((Int.toNat z0 ≤ List.length (TrS.L i) ∧ 15 = 15) ∧ 0 ≤ 0 ∧ 15 = 15 ∧ 40 = 40 ∧ 15 = 15 ∧ 0 + Int.toNat z0 ≤ 9223372036854775807 ∧ (0 + Int.toNat z0) * TI.bytes shrtE0 ≤ 140737488355328) ∧ (15 ≤ 16777216 ∧ 15 = 15 ∧ 1 ≤ 9223372036854775807) ∧ ((1 ≤ 1 ∧ 15 = 15) ∧ 0 + Int.toNat z0 ≤ 0 + Int.toNat z0 ∧ 15 = 15 ∧ 40 = 40 ∧ 15 = 15 ∧ 0 + Int.toNat z0 + 1 ≤ 9223372036854775807 ∧ (0 + Int.toNat z0 + 1) * TI.bytes shrtE0 ≤ 140737488355328) ∧ ((0 : Int) ≤ nextV n (vInt (intRow v)) (TrS.a i) (z6 + (1 : Int)) ∧ nextV n (vInt (intRow v)) (TrS.a i) (z6 + (1 : Int)) ≤ z6) ∧ ((Int.toNat z0 + z5 ≤ List.length (TrS.L i) ∧ 15 = 15 ∧ 15 = 15) ∧ 0 + Int.toNat z0 + 1 ≤ 0 + Int.toNat z0 + 1 ∧ 15 = 15 ∧ 40 = 40 ∧ 15 = 15 ∧ 0 + Int.toNat z0 + 1 + z5 ≤ 9223372036854775807 ∧ (0 + Int.toNat z0 + 1 + z5) * TI.bytes shrtE0 ≤ 140737488355328) ∧ (27 = 27 ∧ 1 = 1 ∧ intRow v = intRow (vInt (intRow v)) ∧ ((1 : Int) ≤ (4 : Int) ∧ (4 : Int) ≤ (1000000 : Int)) ∧ (0 : Int) ≤ TrS.a i + (1 : Int) ∧ TrS.a i + (1 : Int) ≤ (4611686018427387904 : Int)) ∧ condP (decide (nextV n (vInt (intRow v)) (TrS.a i + (1 : Int)) (4 : Int) = (0 : Int))) ((15 ≤ 16777216 ∧ 15 = 15 ∧ 1 ≤ 9223372036854775807) ∧ ((1 ≤ 1 ∧ 15 = 15) ∧ 0 + Int.toNat z0 + 1 + z5 ≤ 0 + Int.toNat z0 + 1 + z5 ∧ 15 = 15 ∧ 40 = 40 ∧ 15 = 15 ∧ 0 + Int.toNat z0 + 1 + z5 + 1 ≤ 9223372036854775807 ∧ (0 + Int.toNat z0 + 1 + z5 + 1) * TI.bytes shrtE0 ≤ 140737488355328) ∧ inR .i64 (z7 + (1 : Int)) ∧ ∃ (i' : TrS), (TEq [(0, .ptr 0 0), (5, .own 1 (0 + Int.toNat z0 + 1 + z5 + 1)), (10, .view 15 c (mgRow g)), (11, .int .i64 (↑c : Int)), (12, .int .i64 (z7 + (1 : Int)))] [(0, .ptr 0 0), (5, .own 1 (List.length (TrS.L i'))), (10, .view 15 c (mgRow g)), (11, .int .i64 (↑c : Int)), (12, .int .i64 (↑(TrS.k i') : Int))] ∧ RowsEq [(0, .cells z8 27), (1, .row 40 15 (0 + Int.toNat z0 + 1 + z5 + 1) (apF (0 + Int.toNat z0 + 1 + z5) z1 z2) false)] [(0, .cells [.view 1 n (intRow v), .int .i64 (TrS.a i')] 27), (1, .row 40 15 (List.length (TrS.L i')) (mgRow (atM (TrS.L i'))) false)]) ∧ P i') (inR .i64 (z7 + (1 : Int)) ∧ ∃ (i' : TrS), (TEq [(0, .ptr 0 0), (5, .own 1 (0 + Int.toNat z0 + 1 + z5)), (10, .view 15 c (mgRow g)), (11, .int .i64 (↑c : Int)), (12, .int .i64 (z7 + (1 : Int)))] [(0, .ptr 0 0), (5, .own 1 (List.length (TrS.L i'))), (10, .view 15 c (mgRow g)), (11, .int .i64 (↑c : Int)), (12, .int .i64 (↑(TrS.k i') : Int))] ∧ RowsEq [(0, .cells z8 27), (1, .row 40 15 (0 + Int.toNat z0 + 1 + z5) z1 false)] [(0, .cells [.view 1 n (intRow v), .int .i64 (TrS.a i')] 27), (1, .row 40 15 (List.length (TrS.L i')) (mgRow (atM (TrS.L i'))) false)]) ∧ P i')) ((∀ (i_1 : Nat), i_1 < List.length (TrS.L i) → true = true) ∧ ∃ (O' : List (Nat × AObj)), RowsEq [(0, .cells [.view 1 n (intRow v), .int .i64 (TrS.a i)] 27), (1, .row 40 15 z9 (mgRow (atM (TrS.L i))) false)] O' ∧ R (.exit 0) (St.mk [(5, .own 1 z9)] O' 2 []))) := by kernel_rfl
theorem getD_len {L : List (List UInt8)} {B : Nat} (h : ∀ s ∈ L, s.length ≤ B) (i : Nat) : (List.getD L i []).length ≤ B := by
  rw [List.getD_eq_getElem?_getD]
  cases q : L[i]? with
  | none => exact Nat.zero_le _
  | some s => exact h s (List.mem_of_getElem? q)
theorem MG.Made.sm {m : MG} (h : m.Made) : m.Sm := ⟨by have := h.dev; omega, by have := h.o; omega, by have := h.o'; omega, by have := h.dd; omega⟩
theorem sp11_ok (hP : C.P = Tryz.prog) : RSpecOK C 60 R_sp11 := by
  rintro args objs R h
  unfold R_sp11 at h
  split at h
  · rename_i sz n f a t
    obtain ⟨rfl, rfl, hf, ha, hR⟩ := h
    rw [hf] at hR ⊢
    generalize vInt f = v at *
    have hw : vInt (intRow v) = v := rfl
    refine RSpecOK.wpL (prg hP) [(36, .rel R_mmsg), (42, .det S_next)] [] 0 (.cons (mmsg_ok hP) (.cons (next_ok hP) .nil)) (hP ▸ Tryz.func60) rfl rfl rfl [] (by kernel_rfl) trivial ?_
    rw [nf_sp11, hw]
    refine ⟨rfl, rfl, rfl, by omega, fun m a' hm ha' => ?_⟩
    have sm := hm.sm
    have fin : ∀ (dev : List UInt8) (seq kind : Int) (o p : List UInt8) (per day st pr : Int) (rep o' p' : List UInt8) (per' : Int) (dd : List UInt8) (num a2 : Int), dev.length ≤ 30 → o.length ≤ 30 → o'.length ≤ 30 → dd.length ≤ 30 → (a' ≤ a2 ∧ a2 ≤ a' + 2) →
        R (.agg [.str dev, .int .i64 seq, .int .i64 kind, .str o, .str p, .int .i64 per, .int .i64 day, .int .i64 st, .int .i64 pr, .str rep, .str o', .str p', .int .i64 per', .str dd, .int .i64 num]) [(0, .cells [.view 1 n (intRow v), .int .i64 a2] 27)] := fun dev seq kind o p per day st pr rep o' p' per' dd num a2 l1 l2 l3 l4 ha2 =>
      hR ⟨dev, seq, kind, ⟨o, p, per, day, st, pr, rep⟩, ⟨o', p', per', dd, num⟩⟩ a2 ⟨by show dev.length < _; omega, by show o.length < _; omega, by show o'.length < _; omega, by show dd.length < _; omega⟩ (by omega)
    have d1 : m.dev.length ≤ 30 := by have := hm.dev; omega
    have d2 : m.v.o.length ≤ 30 := by have := hm.o; omega
    have d3 : m.d.o.length ≤ 30 := by have := hm.o'; omega
    have d4 : m.d.dev.length ≤ 30 := by have := hm.dd; omega
    have r2 := nextV_range (show (1 : Int) ≤ 2 by omega) n v (a' + 1)
    have r3 := nextV_range (show (1 : Int) ≤ 3 by omega) n v (a' + 1)
    have r4 := nextV_range (show (1 : Int) ≤ 4 by omega) n v (a' + 1)
    have r5 := nextV_range (show (1 : Int) ≤ 5 by omega) n v (a' + 1)
    have r7 := nextV_range (show (1 : Int) ≤ 7 by omega) n v (a' + 1)
    refine ⟨⟨rfl, rfl, rfl, ⟨by omega, by omega⟩, by omega, by omega⟩, ?_⟩
    have nx : ∀ k : Int, 1 ≤ k → k ≤ 1000000 → (27 = 27 ∧ 1 = 1 ∧ intRow v = intRow (vInt (intRow v)) ∧ (1 ≤ k ∧ k ≤ 1000000) ∧ 0 ≤ a' + 1 ∧ a' + 1 ≤ 4611686018427387904) := fun k k1 k2 => ⟨rfl, rfl, rfl, ⟨k1, k2⟩, by omega, by omega⟩
    have sz : ∀ k : Nat, k ≤ 100 → k ≤ 16777216 ∧ 1 = 1 ∧ k ≤ 9223372036854775807 := fun k hk => ⟨by omega, rfl, by omega⟩
    refine condP_dec (fun _ => ⟨sz 4 (by omega), nx 4 (by omega) (by omega), ⟨by omega, by omega⟩, ⟨by omega, rfl⟩, ⟨trivial, trivial⟩, fin _ _ _ _ _ _ _ _ _ _ _ _ _ _ _ _ (getD_len (by decide) _) d2 d3 d4 (by omega)⟩) (fun _ => ?_)
    refine condP_dec (fun _ => ⟨sz 4 (by omega), nx 4 (by omega) (by omega), ⟨by omega, by omega⟩, ⟨by omega, rfl⟩, ⟨trivial, trivial⟩, fin _ _ _ _ _ _ _ _ _ _ _ _ _ _ _ _ d1 d2 d3 d4 (by omega)⟩) (fun _ => ?_)
    refine condP_dec (fun _ => ⟨nx 4 (by omega) (by omega), ⟨trivial, trivial⟩, fin _ _ _ _ _ _ _ _ _ _ _ _ _ _ _ _ d1 d2 d3 d4 (by omega)⟩) (fun _ => ?_)
    refine condP_dec (fun _ => ⟨sz 2 (by omega), nx 2 (by omega) (by omega), ⟨by omega, by omega⟩, ⟨by omega, rfl⟩, ⟨trivial, trivial⟩, fin _ _ _ _ _ _ _ _ _ _ _ _ _ _ _ _ d1 (getD_len (by decide) _) d3 d4 (by omega)⟩) (fun _ => ?_)
    refine condP_dec (fun _ => ⟨sz 3 (by omega), nx 3 (by omega) (by omega), ⟨by omega, by omega⟩, ⟨by omega, rfl⟩, ⟨trivial, trivial⟩, fin _ _ _ _ _ _ _ _ _ _ _ _ _ _ _ _ d1 d2 d3 d4 (by omega)⟩) (fun _ => ?_)
    refine condP_dec (fun _ => ⟨sz 4 (by omega), nx 4 (by omega) (by omega), ⟨by omega, by omega⟩, ⟨by omega, rfl⟩, ⟨trivial, trivial⟩, fin _ _ _ _ _ _ _ _ _ _ _ _ _ _ _ _ d1 d2 d3 d4 (by omega)⟩) (fun _ => ?_)
    refine condP_dec (fun _ => ⟨sz 4 (by omega), nx 4 (by omega) (by omega), ⟨by omega, by omega⟩, ⟨by omega, rfl⟩, ⟨trivial, trivial⟩, fin _ _ _ _ _ _ _ _ _ _ _ _ _ _ _ _ d1 d2 d3 d4 (by omega)⟩) (fun _ => ?_)
    refine condP_dec (fun _ => ⟨nx 7 (by omega) (by omega), ⟨trivial, trivial⟩, fin _ _ _ _ _ _ _ _ _ _ _ _ _ _ _ _ d1 d2 d3 d4 (by omega)⟩) (fun _ => ?_)
    refine condP_dec (fun _ => ⟨sz 5 (by omega), nx 5 (by omega) (by omega), ⟨by omega, by omega⟩, ⟨by omega, rfl⟩, ⟨trivial, trivial⟩, fin _ _ _ _ _ _ _ _ _ _ _ _ _ _ _ _ d1 d2 d3 d4 (by omega)⟩) (fun _ => ?_)
    refine condP_dec (fun _ => ⟨sz 4 (by omega), nx 4 (by omega) (by omega), ⟨by omega, by omega⟩, ⟨by omega, rfl⟩, ⟨trivial, trivial⟩, fin _ _ _ _ _ _ _ _ _ _ _ _ _ _ _ _ d1 d2 d3 d4 (by omega)⟩) (fun _ => ?_)
    refine condP_dec (fun _ => ⟨sz 4 (by omega), nx 4 (by omega) (by omega), ⟨by omega, by omega⟩, ⟨by omega, rfl⟩, ⟨trivial, trivial⟩, fin _ _ _ _ _ _ _ _ _ _ _ _ _ _ _ _ d1 d2 d3 d4 (by omega)⟩) (fun _ => ?_)
    refine condP_dec (fun _ => ⟨sz 3 (by omega), nx 3 (by omega) (by omega), ⟨by omega, by omega⟩, ⟨by omega, rfl⟩, ⟨trivial, trivial⟩, fin _ _ _ _ _ _ _ _ _ _ _ _ _ _ _ _ d1 d2 d3 (getD_len (by decide) _) (by omega)⟩) (fun _ => ?_)
    exact ⟨⟨trivial, trivial⟩, fin _ _ _ _ _ _ _ _ _ _ _ _ _ _ _ _ d1 d2 d3 d4 (by omega)⟩
  · exact h.elim
theorem li_loop (hP : C.P = Tryz.prog) (n : Nat) (v : Nat → Int) : LoopOK C 1 35 (loopC Tryz.f15 3) (L_li n v) := by
  rintro st Q ⟨N, c, g, a, h0, hN, hc, ha, hs, hQ⟩
  refine LoopOK.mk (prg hP) [(60, .rel R_sp11)] 0 (.cons (sp11_ok hP) .nil) [0, 3, 7, 8] [0, 3] [] (S_li n v N) (fun i => (i.j : Int) ≤ N ∧ i.c = c + i.j ∧ (a ≤ i.a ∧ i.a ≤ a + 12 * i.j) ∧ ∀ j, j < i.c → (i.g j).Sm) (fun i => N.toNat - i.j) ⟨0, c, g, a⟩
    ⟨hN.1, rfl, by show a ≤ a ∧ a ≤ a + 12 * ((0 : Nat) : Int); omega, hs⟩ h0 (fun i hi => ?_) (fun i => ⟨fun _ _ => rfl, trivial⟩)
  obtain ⟨h1, h2, h3, h4⟩ := hi
  rw [nf_li_round]
  refine condP_dec (fun q => ?_) (fun q => ⟨fun _ _ => rfl, _, rowsEqR _, hQ i (by omega) (by omega) h4⟩)
  refine ⟨rfl, rfl, rfl, by omega, fun m a' hm ha' => ⟨⟨by omega, rfl, by omega⟩, ⟨⟨Nat.le_refl _, rfl⟩, Nat.le_refl _, rfl, rfl, rfl, by omega, ?_⟩, by simp only [inR]; omega, ⟨i.j + 1, i.c + 1, MG.put i.g i.c m, a'⟩, ⟨rfl, rfl, ⟨rfl, rfl, rfl, rfl, rfl, fun j hj => ?_⟩, trivial⟩, ⟨?_, ?_, ?_, fun j hj => ?_⟩, ?_⟩⟩
  · show (i.c + 1) * 176 ≤ _
    omega
  · exact mput_ap i.g i.c m _ rfl j hj
  · show ((i.j + 1 : Nat) : Int) ≤ N
    omega
  · show i.c + 1 = c + (i.j + 1)
    omega
  · show a ≤ a' ∧ a' ≤ a + 12 * ((i.j + 1 : Nat) : Int)
    omega
  · show (MG.put i.g i.c m j).Sm
    unfold MG.put
    by_cases h : j < i.c
    · rw [if_pos h]; exact h4 j h
    · rw [if_neg h]; exact hm
  · show N.toNat - (i.j + 1) < N.toNat - i.j
    omega
theorem list_ok (hP : C.P = Tryz.prog) : RSpecOK C 15 R_list := by
  rintro args objs R h
  unfold R_list at h
  split at h
  · rename_i sz n f a t
    obtain ⟨rfl, rfl, hf, ha, hR⟩ := h
    rw [hf] at hR ⊢
    generalize vInt f = v at *
    have hw : vInt (intRow v) = v := rfl
    refine ACalls.frzO 1 ?_
    refine RSpecOK.wpL (prg hP) [(59, .rel R_msgs), (42, .det S_next), (60, .rel R_sp11)] [(3, L_li n v)] 0 (.cons (msgs_ok hP) (.cons (next_ok hP) (.cons (sp11_ok hP) .nil))) (hP ▸ Tryz.func15) rfl rfl rfl [(loopC Tryz.f15 3, L_li n v)] (by kernel_rfl) ⟨li_loop hP n v, trivial⟩ ?_
    rw [nf_list, hw]
    refine ⟨rfl, rfl, rfl, by omega, ⟨by omega, by omega⟩, fun c g a' hc ha' hm => ?_⟩
    have hc : c ≤ 9 := hc
    have r := nextV_range (show (1 : Int) ≤ 3 by omega) n v a'
    refine ⟨fun _ _ => rfl, ⟨rfl, rfl, rfl, ⟨by omega, by omega⟩, by omega, by omega⟩, nextV n v a' 3, c, g, a' + 1, ⟨rfl, rfl, ⟨rfl, rfl, rfl, rfl, rfl, fun _ _ => rfl⟩, trivial⟩, ⟨by omega, by omega⟩, hc, ⟨by omega, by omega⟩, fun j hj => (hm j hj).sm, fun i h1 h2 h3 => ?_⟩
    have fin : ∀ (k : Nat) (h : Nat → MG) (a2 : Int), k ≤ 12 → (a ≤ a2 ∧ a2 ≤ a + 1100) → (∀ j, j < k → (h j).Sm) → frzO 1 R (.own 1 k) [(0, .cells [.view 1 n (intRow v), .int .i64 a2] 27), (1, .row 40 15 k (mgRow h) false)] := fun k h a2 k1 k2 k3 => by
      have hb : Nat.ble k k = true := Nat.ble_eq_true_of_le (Nat.le_refl _)
      refine ⟨fun _ _ => rfl, ?_⟩
      have e : frzC 1 15 k (mgRow h) (.own 1 k) = .view 15 k (mgRow h) := by simp [frzC, frzA, frz, hb]
      rw [e]
      exact hR k h a2 k1 k2 k3
    have no : ∀ a2 : Int, (i.a ≤ a2 ∧ a2 ≤ i.a + 2) → frzO 1 R (.own 1 i.c) [(0, .cells [.view 1 n (intRow v), .int .i64 a2] 27), (1, .row 40 15 i.c (mgRow i.g) false)] := fun a2 k => fin i.c i.g a2 (by omega) (by omega) h3
    refine condP_dec (fun q1 => ⟨⟨rfl, rfl, rfl, ⟨by omega, by omega⟩, by omega, by omega⟩, condP_dec (fun q2 => ?_) (fun q2 => ⟨fun _ _ => rfl, _, rowsEqR _, no _ (by omega)⟩)⟩) (fun q1 => ⟨fun _ _ => rfl, _, rowsEqR _, no _ (by omega)⟩)
    have r2 := nextV_range (show (1 : Int) ≤ (i.c : Int) by omega) n v (i.a + 1)
    refine ⟨⟨rfl, rfl, rfl, ⟨by omega, by omega⟩, by omega, by omega⟩, ⟨by omega, by omega⟩, ⟨by omega, rfl⟩, ⟨by omega, rfl, by omega⟩, ⟨⟨Nat.le_refl _, rfl⟩, Nat.le_refl _, rfl, rfl, rfl, by omega, ?_⟩, fun j hj => ?_, [(0, .cells [.view 1 n (intRow v), .int .i64 (i.a + 1 + 1)] 27), (1, .row 40 15 (i.c + 1) (mgRow (MG.put i.g i.c (i.g (nextV n v (i.a + 1) (i.c : Int)).toNat))) false)], ⟨rfl, ⟨rfl, rfl, rfl, rfl, rfl, fun j hj => ?_⟩, trivial⟩, fin _ _ _ (by omega) (by omega) (fun j hj => ?_)⟩
    · show (i.c + 1) * 176 ≤ _
      omega
    · rw [mput_ap i.g i.c (i.g (nextV n v (i.a + 1) (i.c : Int)).toNat) _ rfl j hj]; rfl
    · exact mput_ap i.g i.c (i.g (nextV n v (i.a + 1) (i.c : Int)).toNat) _ rfl j hj
    · unfold MG.put
      by_cases h : j < i.c
      · rw [if_pos h]; exact h3 j h
      · rw [if_neg h]; exact h3 _ (by omega)
  · exact h.elim
theorem putAt {α : Type} [Inhabited α] (enc : α → List AV) (M : List α) (x : α) (len : Nat) (hl : M.length = len) (inner ch : Nat → List AV) (h1 : ∀ j, j < len → inner j = enc (M.getD j default)) (hch : ch 0 = enc x) (j : Nat) (hj : j < len + 1) :
    apF len inner ch j = enc ((M ++ [x]).getD j default) := by
  subst hl
  have := putRowL enc M x ch hch j hj
  unfold apF at this ⊢
  by_cases q : j < M.length
  · rw [if_pos q] at this ⊢
    rw [h1 j q]; exact this
  · rw [if_neg q] at this ⊢
    exact this
theorem ins_mem (L : List MG) (x : MG) (p : Nat) (y : MG) : y ∈ L.take p ++ x :: L.drop p ↔ y ∈ L ∨ y = x := by
  rw [List.mem_append, List.mem_cons]
  have : y ∈ L ↔ y ∈ L.take p ∨ y ∈ L.drop p := by rw [← List.mem_append, List.take_append_drop]
  rw [this]
  grind
theorem tr_loop (hP : C.P = Tryz.prog) (n : Nat) (v : Nat → Int) (a : Int) (g : Nat → MG) (c : Nat) : LoopOK C 1 43 (loopC Tryz.f23 3) (L_tr n v a g c) := by
  rintro st Q ⟨h0, hc, ha, hQ⟩
  refine AWP.ownNil 5 40 15 ?_
  refine LoopOK.mk (prg hP) [(42, .det S_next)] 0 (.cons (next_ok hP) .nil) [0, 5, 10, 11, 12] [5] [] (S_tr n v g c) (fun i => i.k ≤ c ∧ i.L.length ≤ 2 * i.k ∧ (a ≤ i.a ∧ i.a ≤ a + 2 * i.k) ∧ ∀ x, x ∈ i.L ↔ x ∈ lst g i.k) (fun i => c - i.k) ⟨0, [], a⟩
    ⟨Nat.zero_le _, Nat.zero_le _, by show a ≤ a ∧ a ≤ a + 2 * ((0 : Nat) : Int); omega, fun x => by simp [lst]⟩ h0 (fun i hi => ?_) (fun i => ⟨fun _ _ => rfl, trivial⟩)
  obtain ⟨h1, h2, h3, h4⟩ := hi
  have hw : vInt (intRow v) = v := rfl
  rw [nf_tr_round, hw, Int.toNat_natCast]
  refine condP_dec (fun q => ?_) (fun q => ?_)
  · have hk : i.k < c := by omega
    generalize hL : i.L = L at *
    generalize hx : g i.k = x at *
    have r := nextV_range (show (1 : Int) ≤ (L.length : Int) + 1 by omega) n v i.a
    obtain ⟨p, hp⟩ : ∃ p : Nat, nextV n v i.a ((L.length : Int) + 1) = (p : Int) := ⟨(nextV n v i.a ((L.length : Int) + 1)).toNat, by omega⟩
    rw [hp, Int.toNat_natCast]
    have hpl : p ≤ L.length := by omega
    have hlen2 : (L.take p ++ x :: L.drop p).length = 0 + p + 1 + (L.length - p) := by simp; omega
    have hmem : ∀ y, y ∈ L.take p ++ x :: L.drop p ↔ y ∈ lst g (i.k + 1) := fun y => by
      rw [ins_mem, h4, lst_snocM, List.mem_append, hx]
      simp
    refine ⟨⟨by omega, by omega, rfl⟩, by simp only [inR]; omega, ⟨rfl, rfl, rfl, ⟨by omega, by omega⟩, by omega, by omega⟩, ⟨by omega, rfl, by omega⟩, ⟨by omega, by omega⟩, ⟨⟨by omega, rfl⟩, Nat.le_refl _, rfl, rfl, rfl, by omega, ?_⟩, ⟨by omega, rfl, by omega⟩, ⟨⟨Nat.le_refl _, rfl⟩, Nat.le_refl _, rfl, rfl, rfl, by omega, ?_⟩, ⟨by omega, by omega⟩, ⟨⟨by omega, rfl, rfl⟩, Nat.le_refl _, rfl, rfl, rfl, by omega, ?_⟩, ⟨rfl, rfl, rfl, ⟨by omega, by omega⟩, by omega, by omega⟩, condP_dec (fun q2 => ?_) (fun q2 => ?_)⟩
    · show (0 + p) * 176 ≤ _
      omega
    · show (0 + p + 1) * 176 ≤ _
      omega
    · show (0 + p + 1 + (L.length - p)) * 176 ≤ _
      omega
    · refine ⟨⟨by omega, rfl, by omega⟩, ⟨⟨Nat.le_refl _, rfl⟩, Nat.le_refl _, rfl, rfl, rfl, by omega, ?_⟩, by simp only [inR]; omega, ⟨i.k + 1, (L.take p ++ x :: L.drop p) ++ [x], i.a + 1 + 1⟩, ⟨?_, rfl, ⟨rfl, rfl, rfl, ?_, rfl, fun j hj => ?_⟩, trivial⟩, ⟨hk, ?_, ?_, fun y => ?_⟩, ?_⟩
      · show (0 + p + 1 + (L.length - p) + 1) * 176 ≤ _
        omega
      · show TEq _ [_, (5, .own 1 ((L.take p ++ x :: L.drop p) ++ [x]).length), _, _, _]
        rw [List.length_append, hlen2]; rfl
      · show _ = ((L.take p ++ x :: L.drop p) ++ [x]).length
        rw [List.length_append, hlen2]; rfl
      · exact putAt mgC (L.take p ++ x :: L.drop p) x _ hlen2 _ _ (insRow mgC L x p hpl _ _ (by rw [← hx]; rfl)) (by rw [← hx]; rfl) j hj
      · show ((L.take p ++ x :: L.drop p) ++ [x]).length ≤ 2 * (i.k + 1)
        rw [List.length_append, hlen2]
        show _ + 1 ≤ _
        omega
      · show a ≤ i.a + 1 + 1 ∧ i.a + 1 + 1 ≤ a + 2 * ((i.k + 1 : Nat) : Int)
        omega
      · show y ∈ (L.take p ++ x :: L.drop p) ++ [x] ↔ y ∈ lst g (i.k + 1)
        rw [List.mem_append, hmem, List.mem_singleton]
        refine ⟨fun h => h.elim id fun e => ?_, .inl⟩
        rw [e, ← hmem, ins_mem]; exact .inr rfl
      · show c - (i.k + 1) < c - i.k
        omega
    · refine ⟨by simp only [inR]; omega, ⟨i.k + 1, L.take p ++ x :: L.drop p, i.a + 1 + 1⟩, ⟨?_, rfl, ⟨rfl, rfl, rfl, hlen2.symm, rfl, fun j hj => ?_⟩, trivial⟩, ⟨hk, ?_, ?_, hmem⟩, ?_⟩
      · show TEq _ [_, (5, .own 1 (L.take p ++ x :: L.drop p).length), _, _, _]
        rw [hlen2]; rfl
      · exact insRow mgC L x p hpl _ _ (by rw [← hx]; rfl) j hj
      · show (L.take p ++ x :: L.drop p).length ≤ 2 * (i.k + 1)
        rw [hlen2]; omega
      · show a ≤ i.a + 1 + 1 ∧ i.a + 1 + 1 ≤ a + 2 * ((i.k + 1 : Nat) : Int)
        omega
      · show c - (i.k + 1) < c - i.k
        omega
  · have : i.k = c := by omega
    rw [this] at h2 h3 h4
    exact ⟨fun _ _ => rfl, _, rowsEqR _, hQ i h2 h3 h4⟩
theorem turned_ok (hP : C.P = Tryz.prog) : RSpecOK C 23 R_turned := by
  rintro args objs R h
  unfold R_turned at h
  split at h
  · rename_i c q sz n f a t
    obtain ⟨rfl, rfl, hf, ha, hq, hc, hR⟩ := h
    rw [hf] at hR ⊢
    generalize vInt f = v at *
    generalize mgOf q = g at *
    subst hq
    have hw : vInt (intRow v) = v := rfl
    refine ACalls.frzO 1 ?_
    refine RSpecOK.wpL (prg hP) [(42, .det S_next)] [(3, L_tr n v a g c)] 0 (.cons (next_ok hP) .nil) (hP ▸ Tryz.func23) rfl rfl rfl [(loopC Tryz.f23 3, L_tr n v a g c)] (by kernel_rfl) ⟨tr_loop hP n v a g c, trivial⟩ ?_
    rw [nf_turned]
    refine ⟨⟨rfl, rfl, ⟨rfl, rfl, rfl, rfl, rfl, fun i hi => absurd hi (Nat.not_lt_zero i)⟩, trivial⟩, hc, ⟨by omega, by omega⟩, fun i k1 k2 k3 => ⟨fun _ _ => rfl, _, rowsEqR _, fun _ _ => rfl, ?_⟩⟩
    have hb : Nat.ble i.L.length i.L.length = true := Nat.ble_eq_true_of_le (Nat.le_refl _)
    have e : frzC 1 15 i.L.length (mgRow (atM i.L)) (.own 1 i.L.length) = .view 15 i.L.length (mgRow (atM i.L)) := by simp [frzC, frzA, frz, hb]
    rw [e]
    exact hR i.L.length (atM i.L) i.a k1 ⟨by omega, by omega⟩ (fun x => by rw [lst_atM]; exact k3 x)
  · exact h.elim
end Go.Eng
namespace Go.Eng
theorem cutM_sm (g : Nat → MG) (i : Nat) : (cutM g i).Sm := by
  refine ⟨?_, ?_, ?_, ?_⟩
  · show ((g i).dev.take 30).length < _
    rw [List.length_take]; omega
  · show ((g i).v.o.take 30).length < _
    rw [List.length_take]; omega
  · show ((g i).d.o.take 30).length < _
    rw [List.length_take]; omega
  · show ((g i).d.dev.take 30).length < _
    rw [List.length_take]; omega
end Go.Eng
namespace Go.Eng
open Go.Proofs Go.RowKit
variable {C : Ctx} [C.Loose]
set_option maxRecDepth 20000
theorem nf_lmk (na : Nat) (ga : Nat → MG) (n : Nat) (v : Nat → Int) (R : AV → List (Nat × AObj) → Prop) : wpFn te [(15, .rel R_list), (16, .det S_raw11), (18, .det S_cloned), (19, .det S_cloned), (20, .det S_gaps), (21, .det S_gaps), (17, .det S_sameK), (22, .det S_awake11)] [] 0 Tryz.f3 [.view 15 na (mgRow ga), .view 1 n (intRow v)] [] R = (letI z12 := cutM (mgOf (mgRow ga)); letI z11 := R (.bool false) []; letI z0 := mgOf (mgRow z12); letI z6 := gapL z0 (min na 12); letI z8 := mkOf (mkRow (atK z6)); letI z5 := clonL z0 (min na 12); letI z7 := mkOf (mkRow (atK z5)); letI z1 := (min na 12 ≤ 100000 ∧ mgRow z12 = mgRow z0 ∧ ∀ (i : Nat), i < min na 12 → MG.Sm (mgOf (mgRow z12) i)); 27 = 27 ∧ 1 = 1 ∧ intRow v = intRow (vInt (intRow v)) ∧ ((0 : Int) ≤ (0 : Int) ∧ (0 : Int) ≤ (4611686018427360000 : Int)) ∧ ∀ (c : Nat) (g : Nat → MG) (a' : Int), letI z4 := gapL (mgOf (mgRow g)) c; letI z10 := mkOf (mkRow (atK z4)); letI z3 := clonL (mgOf (mgRow g)) c; letI z9 := mkOf (mkRow (atK z3)); letI z2 := (c ≤ 100000 ∧ mgRow g = mgRow (mgOf (mgRow g)) ∧ ∀ (i : Nat), i < c → MG.Sm (mgOf (mgRow g) i)); c ≤ 12 → (0 : Int) ≤ a' ∧ a' ≤ (0 : Int) + (1100 : Int) → (∀ (j : Nat), j < c → MG.Sm (g j)) → mgRow ga = mgRow (mgOf (mgRow ga)) ∧ z1 ∧ z1 ∧ (List.length z5 ≤ 100000000 ∧ mkRow (atK z5) = mkRow z7 ∧ mkRow (atK z5) = mkRow z7) ∧ condP (decide (List.length z5 = List.length z5) && eqKs z7 z7 (List.length z5)) (z1 ∧ z1 ∧ (List.length z6 ≤ 100000000 ∧ mkRow (atK z6) = mkRow z8 ∧ mkRow (atK z6) = mkRow z8) ∧ condP (decide (List.length z6 = List.length z6) && eqKs z8 z8 (List.length z6)) (z2 ∧ z2 ∧ (List.length z3 ≤ 100000000 ∧ mkRow (atK z3) = mkRow z9 ∧ mkRow (atK z3) = mkRow z9) ∧ condP (decide (List.length z3 = List.length z3) && eqKs z9 z9 (List.length z3)) (z2 ∧ z2 ∧ (List.length z4 ≤ 100000000 ∧ mkRow (atK z4) = mkRow z10 ∧ mkRow (atK z4) = mkRow z10) ∧ condP (decide (List.length z4 = List.length z4) && eqKs z10 z10 (List.length z4)) (True ∧ R (.bool true) []) z11) z11) z11) z11) := by kernel_rfl
theorem nf_lol (n : Nat) (v : Nat → Int) (R : AV → List (Nat × AObj) → Prop) : wpFn te [(15, .rel R_list), (23, .rel R_turned), (18, .det S_cloned), (20, .det S_gaps), (17, .det S_sameK), (22, .det S_awake11)] [(7, L_lo)] 0 Tryz.f4 [.view 1 n (intRow v)] [] R = (27 = 27 ∧ 1 = 1 ∧ intRow v = intRow (vInt (intRow v)) ∧ ((0 : Int) ≤ (0 : Int) ∧ (0 : Int) ≤ (4611686018427360000 : Int)) ∧ ∀ (c : Nat) (g : Nat → MG) (a' : Int), letI z2 := (c ≤ 100000 ∧ mgRow g = mgRow (mgOf (mgRow g)) ∧ ∀ (i : Nat), i < c → MG.Sm (mgOf (mgRow g) i)); letI z1 := gapL (mgOf (mgRow g)) c; letI z0 := clonL (mgOf (mgRow g)) c; c ≤ 12 → (0 : Int) ≤ a' ∧ a' ≤ (0 : Int) + (1100 : Int) → (∀ (j : Nat), j < c → MG.Sm (g j)) → 27 = 27 ∧ 1 = 1 ∧ intRow v = intRow (vInt (intRow v)) ∧ ((0 : Int) ≤ a' ∧ a' ≤ (4611686018427360000 : Int)) ∧ mgRow g = mgRow (mgOf (mgRow g)) ∧ c ≤ 100 ∧ ∀ (k : Nat) (h : Nat → MG) (a'_1 : Int), letI z5 := gapL (mgOf (mgRow h)) k; letI z4 := clonL (mgOf (mgRow h)) k; letI z3 := (k ≤ 100000 ∧ mgRow h = mgRow (mgOf (mgRow h)) ∧ ∀ (i : Nat), i < k → MG.Sm (mgOf (mgRow h) i)); k ≤ 2 * c → a' ≤ a'_1 ∧ a'_1 ≤ a' + (200 : Int) → (∀ (x : MG), x ∈ lst h k ↔ x ∈ lst (mgOf (mgRow g)) c) → z2 ∧ z3 ∧ (List.length z0 ≤ 100000000 ∧ mkRow (atK z0) = mkRow (mkOf (mkRow (atK z0))) ∧ mkRow (atK z4) = mkRow (mkOf (mkRow (atK z4)))) ∧ condP (!(decide (List.length z0 = List.length z4) && eqKs (mkOf (mkRow (atK z0))) (mkOf (mkRow (atK z4))) (List.length z0))) (R (.bool false) []) (z2 ∧ z3 ∧ (List.length z1 ≤ 100000000 ∧ mkRow (atK z1) = mkRow (mkOf (mkRow (atK z1))) ∧ mkRow (atK z5) = mkRow (mkOf (mkRow (atK z5)))) ∧ condP (!(decide (List.length z1 = List.length z5) && eqKs (mkOf (mkRow (atK z1))) (mkOf (mkRow (atK z5))) (List.length z1))) (R (.bool false) []) (∃ (na : Nat), ∃ (ga : Nat → MG), ∃ (nb : Nat), ∃ (gb : Nat → MG), some (St.mk [(4, .view 15 c (mgRow g)), (5, .view 15 k (mgRow h)), (35, .view 15 c (mgRow g)), (36, .int .i64 (↑c : Int)), (37, .int .i64 0)] [] 0 []) = some (St.mk [(4, .view 15 na (mgRow ga)), (5, .view 15 nb (mgRow gb)), (35, .view 15 na (mgRow ga)), (36, .int .i64 (↑na : Int)), (37, .int .i64 (↑0 : Int))] [] 0 []) ∧ na ≤ 1000 ∧ nb ≤ 1000 ∧ (∀ (i : Nat), i < na → MG.Sm (ga i)) ∧ (∀ (i : Nat), i < nb → MG.Sm (gb i)) ∧ (∀ (x : MG), x ∈ lst gb nb ↔ x ∈ lst ga na) ∧ True ∧ R (.bool true) []))) := by kernel_rfl
theorem nf_lo_round (ga : Nat → MG) (na : Nat) (gb : Nat → MG) (nb k : Nat) (P : Nat → Prop) (R : Exit → St → Prop) : roundP ⟨te, [(24, .det S_resolve), (26, .det S_candR), (25, .det S_sameM)], [], 0, 95, 0⟩ (loopB Tryz.f4 7) [4, 5, 35, 36, 37] [] [] (S_lo ga na gb nb) P R (S_lo ga na gb nb k) = (letI z9 := R .ret (St.mk [] [] 0 []); letI z6 := (nb ≤ 100000 ∧ mgRow gb = mgRow (mgOf (mgRow gb)) ∧ ∀ (i : Nat), i < nb → MG.Sm (mgOf (mgRow gb) i)); letI z5 := (na ≤ 100000 ∧ mgRow ga = mgRow (mgOf (mgRow ga)) ∧ ∀ (i : Nat), i < na → MG.Sm (mgOf (mgRow ga) i)); letI z0 := (MG.v (ga (Int.toNat (↑k : Int)))); letI z8 := resF (mgOf (mgRow ga)) na (VT.o z0) (VT.p z0) (VT.per z0); letI z7 := resF (mgOf (mgRow gb)) nb (VT.o z0) (VT.p z0) (VT.per z0); letI z4 := candL (mgOf (mgRow gb)) nb (VT.o z0) (VT.p z0) (VT.per z0); letI z3 := candL (mgOf (mgRow ga)) na (VT.o z0) (VT.p z0) (VT.per z0); letI z2 := Prod.fst z7; letI z1 := Prod.fst z8; condP (decide ((↑k : Int) < (↑na : Int))) (((0 : Int) ≤ (↑k : Int) ∧ (↑k : Int) < (↑na : Int) ∧ 15 = 15) ∧ z5 ∧ z6 ∧ condP (!(decide (VT.o z1 = VT.o z2) && (decide (VT.p z1 = VT.p z2) && (decide (VT.per z1 = VT.per z2) && (decide (VT.day z1 = VT.day z2) && (decide (VT.st z1 = VT.st z2) && (decide (VT.pr z1 = VT.pr z2) && decide (VT.rep z1 = VT.rep z2)))))))) z9 (condP (!decide (Prod.snd z8 = Prod.snd z7)) z9 (z5 ∧ z6 ∧ (List.length z3 ≤ 1000000 ∧ mgRow (atM z3) = mgRow (mgOf (mgRow (atM z3))) ∧ mgRow (atM z4) = mgRow (mgOf (mgRow (atM z4)))) ∧ condP (!(decide (List.length z3 = List.length z4) && eqMs (mgOf (mgRow (atM z3))) (mgOf (mgRow (atM z4))) (List.length z3))) z9 (inR .i64 ((↑k : Int) + (1 : Int)) ∧ ∃ (i' : Nat), some (St.mk [(4, .view 15 na (mgRow ga)), (5, .view 15 nb (mgRow gb)), (35, .view 15 na (mgRow ga)), (36, .int .i64 (↑na : Int)), (37, .int .i64 ((↑k : Int) + (1 : Int)))] [] 0 []) = some (St.mk [(4, .view 15 na (mgRow ga)), (5, .view 15 nb (mgRow gb)), (35, .view 15 na (mgRow ga)), (36, .int .i64 (↑na : Int)), (37, .int .i64 (↑i' : Int))] [] 0 []) ∧ P i')))) (R (.exit 0) (St.mk [] [] 0 []))) := by kernel_rfl
theorem gpF_len (M : List MG) : ∀ k, 0 ≤ (gpF M k).miss ∧ (gpF M k).out.length ≤ 400 * k
  | 0 => ⟨Int.le_refl _, Nat.le_refl _⟩
  | k + 1 => by
    obtain ⟨h1, h2⟩ := gpF_len M k
    have hm : 0 ≤ (gpDev (gpF M k) (atM M k)).miss ∧ (gpDev (gpF M k) (atM M k)).out.length ≤ 400 * k := by
      unfold gpDev
      cases decide ((atM M k).dev = (gpF M k).dev) with
      | true => exact ⟨h1, h2⟩
      | false => exact ⟨Int.le_refl _, h2⟩
    have hc := gpCnt_le (gpDev (gpF M k) (atM M k)) (atM M k).seq hm.1
    have hl := gpFill_len (gpDev (gpF M k) (atM M k)) (gpCnt (gpDev (gpF M k) (atM M k)) (atM M k).seq)
    refine ⟨?_, ?_⟩
    · show 0 ≤ (gpDev (gpF M k) (atM M k)).miss + ((gpCnt (gpDev (gpF M k) (atM M k)) (atM M k).seq : Nat) : Int)
      omega
    · show (gpFill (gpDev (gpF M k) (atM M k)) (gpCnt (gpDev (gpF M k) (atM M k)) (atM M k).seq)).out.length ≤ _
      omega
theorem gapL_len (g : Nat → MG) (n : Nat) : (gapL g n).length ≤ 400 * n := by
  have h := (gpF_len (mrgL g n noM 0) (mrgL g n noM 0).length).2
  have := mrgL_len g n noM 0
  unfold gapL; omega
theorem clonL_len (g : Nat → MG) (n : Nat) : (clonL g n).length ≤ n := by
  have h := clnP_len (mrgL g n noM 0) (mrgL g n noM 0).length
  have := mrgL_len g n noM 0
  unfold clonL; omega
theorem lmk_ok (hP : C.P = Tryz.prog) (hL : ∀ w, C.laid w → LaidW w) (na : Nat) (ga : Nat → MG) (n : Nat) (v : Nat → Int) : ADet C 3 [.view 15 na (mgRow ga), .view 1 n (intRow v)] [] (.bool true) [] := by
  refine SpecOK.wpL (prg hP) [(15, .rel R_list), (16, .det S_raw11), (18, .det S_cloned), (19, .det S_cloned), (20, .det S_gaps), (21, .det S_gaps), (17, .det S_sameK), (22, .det S_awake11)] [] 0
    (.cons (list_ok hP) (.cons (raw11_ok hP) (.cons (cloned_ok hP hL) (.cons (clonR_ok hP) (.cons (gaps_ok hP hL) (.cons (gapsR_ok hP) (.cons (sameK_ok hP) (.cons (awake11_ok hP hL) .nil)))))))) (hP ▸ Tryz.func3) rfl rfl rfl [] (by kernel_rfl) trivial ?_
  rw [nf_lmk]
  have s1 : min na 12 ≤ 100000 ∧ mgRow (cutM (mgOf (mgRow ga))) = mgRow (mgOf (mgRow (cutM (mgOf (mgRow ga))))) ∧ ∀ i, i < min na 12 → (mgOf (mgRow (cutM (mgOf (mgRow ga)))) i).Sm := ⟨by omega, rfl, fun i _ => cutM_sm ga i⟩
  have eqs : ∀ (X : List (List UInt8 × Int)) {p q : Prop}, p → condP (decide (X.length = X.length) && eqKs (mkOf (mkRow (atK X))) (mkOf (mkRow (atK X))) X.length) p q := fun X p q hp => by
    rw [show (decide (X.length = X.length) && eqKs (mkOf (mkRow (atK X))) (mkOf (mkRow (atK X))) X.length) = true from sameK_true (X := X) rfl]; exact hp
  refine ⟨rfl, rfl, rfl, by omega, fun c g a' hc ha sc => ?_⟩
  have s2 : c ≤ 100000 ∧ mgRow g = mgRow (mgOf (mgRow g)) ∧ ∀ i, i < c → (mgOf (mgRow g) i).Sm := ⟨by omega, rfl, sc⟩
  have c1 := clonL_len (mgOf (mgRow (cutM (mgOf (mgRow ga))))) (min na 12)
  have c2 := gapL_len (mgOf (mgRow (cutM (mgOf (mgRow ga))))) (min na 12)
  have c3 := clonL_len (mgOf (mgRow g)) c
  have c4 := gapL_len (mgOf (mgRow g)) c
  exact ⟨rfl, s1, s1, ⟨by omega, rfl, rfl⟩, eqs _ ⟨s1, s1, ⟨by omega, rfl, rfl⟩, eqs _ ⟨s2, s2, ⟨by omega, rfl, rfl⟩, eqs _ ⟨s2, s2, ⟨by omega, rfl, rfl⟩, eqs _ ⟨trivial, rfl, rfl⟩⟩⟩⟩⟩
theorem lo_loop (hP : C.P = Tryz.prog) (hL : ∀ w, C.laid w → LaidW w) : LoopOK C 0 95 (loopC Tryz.f4 7) L_lo := by
  rintro st Q ⟨na, ga, nb, gb, h0, hn1, hn2, sa, sb, hm, hQ⟩
  refine LoopOK.mk (prg hP) [(24, .det S_resolve), (26, .det S_candR), (25, .det S_sameM)] 0 (.cons (resolve_ok hP hL) (.cons (candC_ok hP hL) (.cons (sameM_ok hP) .nil))) [4, 5, 35, 36, 37] [] [] (S_lo ga na gb nb) (fun k => k ≤ na) (fun k => na - k) 0 (Nat.zero_le _) h0 (fun k hk => ?_)
  rw [nf_lo_round, Int.toNat_natCast]
  have tel : ∀ g : Nat → MG, mgOf (mgRow g) = g := fun _ => rfl
  simp only [tel]
  rw [resF_set hm, candL_set hm]
  have hr := rightL_len ga na
  have hc := canL_len (ga k).v.o (ga k).v.p (ga k).v.per (atM (rightL ga na)) (rightL ga na).length
  have hcl : (candL ga na (ga k).v.o (ga k).v.p (ga k).v.per).length ≤ na := by unfold candL; omega
  refine condP_dec (fun h1 => ?_) (fun h1 => hQ)
  have sA : na ≤ 100000 ∧ True ∧ ∀ i, i < na → (ga i).Sm := ⟨by omega, trivial, sa⟩
  have sB : nb ≤ 100000 ∧ True ∧ ∀ i, i < nb → (gb i).Sm := ⟨by omega, trivial, sb⟩
  refine ⟨⟨by omega, by omega, trivial⟩, sA, sB, condP_not (fun q => by simp at q) (fun _ => condP_ndec (fun q => absurd rfl q) (fun _ => ⟨sA, sB, ⟨by omega, trivial, trivial⟩, condP_not (fun q => ?_) (fun _ => ⟨by simp only [inR]; omega, k + 1, rfl, by omega, by omega⟩)⟩))⟩
  rw [sameM_true (X := candL ga na (ga k).v.o (ga k).v.p (ga k).v.per) rfl] at q
  cases q
theorem lol_ok (hP : C.P = Tryz.prog) (hL : ∀ w, C.laid w → LaidW w) (n : Nat) (v : Nat → Int) : ADet C 4 [.view 1 n (intRow v)] [] (.bool true) [] := by
  refine SpecOK.wpL (prg hP) [(15, .rel R_list), (23, .rel R_turned), (18, .det S_cloned), (20, .det S_gaps), (17, .det S_sameK), (22, .det S_awake11)] [(7, L_lo)] 0
    (.cons (list_ok hP) (.cons (turned_ok hP) (.cons (cloned_ok hP hL) (.cons (gaps_ok hP hL) (.cons (sameK_ok hP) (.cons (awake11_ok hP hL) .nil)))))) (hP ▸ Tryz.func4) rfl rfl rfl [(loopC Tryz.f4 7, L_lo)] (by kernel_rfl) ⟨lo_loop hP hL, trivial⟩ ?_
  rw [nf_lol]
  have tel : ∀ g : Nat → MG, mgOf (mgRow g) = g := fun _ => rfl
  refine ⟨rfl, rfl, rfl, by omega, fun c g a' hc ha sc => ⟨rfl, rfl, rfl, by omega, rfl, by omega, fun k h a2 hk ha2 hm => ?_⟩⟩
  have hm : ∀ x, x ∈ lst h k ↔ x ∈ lst g c := hm
  have sh : ∀ i, i < k → (h i).Sm := fun i hi => by
    obtain ⟨j, hj, e⟩ := List.mem_map.1 ((hm (h i)).1 (List.mem_map.2 ⟨i, List.mem_range.2 hi, rfl⟩))
    rw [← e]; exact sc j (List.mem_range.1 hj)
  have c1 := clonL_len g c
  have c2 := gapL_len g c
  simp only [tel]
  rw [clonL_set hm, gapL_set hm]
  refine ⟨⟨by omega, trivial, sc⟩, ⟨by omega, trivial, sh⟩, ⟨by omega, rfl, rfl⟩, condP_not (fun q => ?_) (fun _ => ⟨⟨by omega, trivial, sc⟩, ⟨by omega, trivial, sh⟩, ⟨by omega, rfl, rfl⟩, condP_not (fun q => ?_) (fun _ => ⟨c, g, k, h, rfl, by omega, by omega, sc, sh, hm, trivial, trivial, trivial⟩)⟩)⟩
  · rw [show (decide ((clonL g c).length = (clonL g c).length) && eqKs (mkOf (mkRow (atK (clonL g c)))) (mkOf (mkRow (atK (clonL g c)))) (clonL g c).length) = true from sameK_true (X := clonL g c) rfl] at q
    cases q
  · rw [show (decide ((gapL g c).length = (gapL g c).length) && eqKs (mkOf (mkRow (atK (gapL g c)))) (mkOf (mkRow (atK (gapL g c)))) (gapL g c).length) = true from sameK_true (X := gapL g c) rfl] at q
    cases q
end Go.Eng
