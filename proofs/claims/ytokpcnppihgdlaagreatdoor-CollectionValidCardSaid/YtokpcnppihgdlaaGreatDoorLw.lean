/- The tied card of CollectionValid: its statement is 'CollectionValidCardSaid' of the given cards. -/
import Derived.Test.YtokpcnppihgdlaaGreatDoorLs
import Derived.Test.YtokpcnppihgdlaaGreatDoorLv
import Derived.Test.YtokpcnppihgdlaaGreatDoorLp
import Derived.Test.YtokpcnppihgdlaaGreatDoorLt
import Derived.Test.YtokpcnppihgdlaaGreatDoorLq
import Derived.Test.YtokpcnppihgdlaaGreatDoorLo
import Derived.Test.YtokpcnppihgdlaaGreatDoorCards
import Derived.Test.YtokpcnppihgdlaaGreatDoorTie
import Derived.SevenTiedAt
namespace Go.Eng
open Go.Proofs Go.RowKit
variable {C : Ctx} [C.Loose]
set_option maxRecDepth 20000
theorem nf_sp11 (n : Nat) (v : Nat → Int) (a : Int) (R : AV → List (Nat × AObj) → Prop) : wpFn te [(46, .rel R_mmsg), (27, .det S_next)] [] 0 Tryz.f31 [.ptr 0 0] [.cells [.view 1 n (intRow v), .int .i64 a] 28] R = (letI z2 := (4611686018427387904 : Int); 28 = 28 ∧ 1 = 1 ∧ intRow v = intRow (vInt (intRow v)) ∧ ((0 : Int) ≤ a ∧ a ≤ (4611686018427385000 : Int)) ∧ ∀ (m : MG) (a' : Int), letI z6 := (nextV n (vInt (intRow v)) (a' + (1 : Int)) (5 : Int)); letI z5 := (nextV n (vInt (intRow v)) (a' + (1 : Int)) (2 : Int)); letI z3 := (nextV n (vInt (intRow v)) (a' + (1 : Int)) (3 : Int)); letI z1 := (nextV n (vInt (intRow v)) (a' + (1 : Int)) (4 : Int)); letI z4 := Int.toNat z1 < 4 ∧ 1 = 1; letI z0 := ([(0, .cells [.view 1 n (intRow v), .int .i64 (a' + (1 : Int) + (1 : Int))] 28)] : List (Nat × AObj)); MG.Made m → a ≤ a' ∧ a' ≤ a + (10 : Int) → (28 = 28 ∧ 1 = 1 ∧ intRow v = intRow (vInt (intRow v)) ∧ ((1 : Int) ≤ (16 : Int) ∧ (16 : Int) ≤ (1000000 : Int)) ∧ (0 : Int) ≤ a' ∧ a' ≤ z2) ∧ condP (decide (nextV n (vInt (intRow v)) a' (16 : Int) = (0 : Int))) ((4 ≤ 16777216 ∧ 1 = 1 ∧ 4 ≤ 9223372036854775807) ∧ (28 = 28 ∧ 1 = 1 ∧ intRow v = intRow (vInt (intRow v)) ∧ ((1 : Int) ≤ (4 : Int) ∧ (4 : Int) ≤ (1000000 : Int)) ∧ (0 : Int) ≤ a' + (1 : Int) ∧ a' + (1 : Int) ≤ z2) ∧ ((0 : Int) ≤ nextV n (vInt (intRow v)) (a' + (1 : Int)) (4 : Int) ∧ nextV n (vInt (intRow v)) (a' + (1 : Int)) (4 : Int) < (↑4 : Int)) ∧ z4 ∧ (True ∧ True) ∧ R (.agg [.str (List.getD [[], [(65 : UInt8)], [(97 : UInt8), 32, 98], [(97 : UInt8), 98, 99, 100, 101, 102, 103, 104, 105, 106, 107, 108, 109, 110, 111, 112, 113, 114, 115, 116, 117, 118, 119, 120, 121]] (Int.toNat z1) []), .int .i64 (MG.seq m), .int .i64 (MG.kind m), .str (VT.o (MG.v m)), .str (VT.p (MG.v m)), .int .i64 (VT.per (MG.v m)), .int .i64 (VT.day (MG.v m)), .int .i64 (VT.st (MG.v m)), .int .i64 (VT.pr (MG.v m)), .str (VT.rep (MG.v m)), .str (DT.o (MG.d m)), .str (DT.p (MG.d m)), .int .i64 (DT.per (MG.d m)), .str (DT.dev (MG.d m)), .int .i64 (DT.num (MG.d m))]) z0) (condP (decide (nextV n (vInt (intRow v)) a' (16 : Int) = (1 : Int))) ((4 ≤ 16777216 ∧ 1 = 1 ∧ 4 ≤ 9223372036854775807) ∧ (28 = 28 ∧ 1 = 1 ∧ intRow v = intRow (vInt (intRow v)) ∧ ((1 : Int) ≤ (4 : Int) ∧ (4 : Int) ≤ (1000000 : Int)) ∧ (0 : Int) ≤ a' + (1 : Int) ∧ a' + (1 : Int) ≤ z2) ∧ ((0 : Int) ≤ nextV n (vInt (intRow v)) (a' + (1 : Int)) (4 : Int) ∧ nextV n (vInt (intRow v)) (a' + (1 : Int)) (4 : Int) < (↑4 : Int)) ∧ z4 ∧ (True ∧ True) ∧ R (.agg [.str (MG.dev m), .int .i64 (List.getD [(0 : Int), (-1 : Int), (1048576 : Int), (1048577 : Int)] (Int.toNat z1) (0 : Int)), .int .i64 (MG.kind m), .str (VT.o (MG.v m)), .str (VT.p (MG.v m)), .int .i64 (VT.per (MG.v m)), .int .i64 (VT.day (MG.v m)), .int .i64 (VT.st (MG.v m)), .int .i64 (VT.pr (MG.v m)), .str (VT.rep (MG.v m)), .str (DT.o (MG.d m)), .str (DT.p (MG.d m)), .int .i64 (DT.per (MG.d m)), .str (DT.dev (MG.d m)), .int .i64 (DT.num (MG.d m))]) z0) (condP (decide (nextV n (vInt (intRow v)) a' (16 : Int) = (2 : Int))) ((28 = 28 ∧ 1 = 1 ∧ intRow v = intRow (vInt (intRow v)) ∧ ((1 : Int) ≤ (4 : Int) ∧ (4 : Int) ≤ (1000000 : Int)) ∧ (0 : Int) ≤ a' + (1 : Int) ∧ a' + (1 : Int) ≤ z2) ∧ (True ∧ True) ∧ R (.agg [.str (MG.dev m), .int .i64 (MG.seq m), .int .i64 z1, .str (VT.o (MG.v m)), .str (VT.p (MG.v m)), .int .i64 (VT.per (MG.v m)), .int .i64 (VT.day (MG.v m)), .int .i64 (VT.st (MG.v m)), .int .i64 (VT.pr (MG.v m)), .str (VT.rep (MG.v m)), .str (DT.o (MG.d m)), .str (DT.p (MG.d m)), .int .i64 (DT.per (MG.d m)), .str (DT.dev (MG.d m)), .int .i64 (DT.num (MG.d m))]) z0) (condP (decide (nextV n (vInt (intRow v)) a' (16 : Int) = (3 : Int))) ((2 ≤ 16777216 ∧ 1 = 1 ∧ 2 ≤ 9223372036854775807) ∧ (28 = 28 ∧ 1 = 1 ∧ intRow v = intRow (vInt (intRow v)) ∧ ((1 : Int) ≤ (2 : Int) ∧ (2 : Int) ≤ (1000000 : Int)) ∧ (0 : Int) ≤ a' + (1 : Int) ∧ a' + (1 : Int) ≤ z2) ∧ ((0 : Int) ≤ nextV n (vInt (intRow v)) (a' + (1 : Int)) (2 : Int) ∧ nextV n (vInt (intRow v)) (a' + (1 : Int)) (2 : Int) < (↑2 : Int)) ∧ (Int.toNat z5 < 2 ∧ 1 = 1) ∧ (True ∧ True) ∧ R (.agg [.str (MG.dev m), .int .i64 (MG.seq m), .int .i64 (MG.kind m), .str (List.getD [[], [(120 : UInt8), 32, 121]] (Int.toNat z5) []), .str (VT.p (MG.v m)), .int .i64 (VT.per (MG.v m)), .int .i64 (VT.day (MG.v m)), .int .i64 (VT.st (MG.v m)), .int .i64 (VT.pr (MG.v m)), .str (VT.rep (MG.v m)), .str (DT.o (MG.d m)), .str (DT.p (MG.d m)), .int .i64 (DT.per (MG.d m)), .str (DT.dev (MG.d m)), .int .i64 (DT.num (MG.d m))]) z0) (condP (decide (nextV n (vInt (intRow v)) a' (16 : Int) = (4 : Int))) ((3 ≤ 16777216 ∧ 1 = 1 ∧ 3 ≤ 9223372036854775807) ∧ (28 = 28 ∧ 1 = 1 ∧ intRow v = intRow (vInt (intRow v)) ∧ ((1 : Int) ≤ (3 : Int) ∧ (3 : Int) ≤ (1000000 : Int)) ∧ (0 : Int) ≤ a' + (1 : Int) ∧ a' + (1 : Int) ≤ z2) ∧ ((0 : Int) ≤ nextV n (vInt (intRow v)) (a' + (1 : Int)) (3 : Int) ∧ nextV n (vInt (intRow v)) (a' + (1 : Int)) (3 : Int) < (↑3 : Int)) ∧ (Int.toNat z3 < 3 ∧ 1 = 1) ∧ (True ∧ True) ∧ R (.agg [.str (MG.dev m), .int .i64 (MG.seq m), .int .i64 (MG.kind m), .str (VT.o (MG.v m)), .str (List.getD [[], [(49 : UInt8), 50, 51, 52, 53, 54, 55, 56], [(57 : UInt8), 54, 51, 56, 53, 48, 55, 52]] (Int.toNat z3) []), .int .i64 (VT.per (MG.v m)), .int .i64 (VT.day (MG.v m)), .int .i64 (VT.st (MG.v m)), .int .i64 (VT.pr (MG.v m)), .str (VT.rep (MG.v m)), .str (DT.o (MG.d m)), .str (DT.p (MG.d m)), .int .i64 (DT.per (MG.d m)), .str (DT.dev (MG.d m)), .int .i64 (DT.num (MG.d m))]) z0) (condP (decide (nextV n (vInt (intRow v)) a' (16 : Int) = (5 : Int))) ((4 ≤ 16777216 ∧ 1 = 1 ∧ 4 ≤ 9223372036854775807) ∧ (28 = 28 ∧ 1 = 1 ∧ intRow v = intRow (vInt (intRow v)) ∧ ((1 : Int) ≤ (4 : Int) ∧ (4 : Int) ≤ (1000000 : Int)) ∧ (0 : Int) ≤ a' + (1 : Int) ∧ a' + (1 : Int) ≤ z2) ∧ ((0 : Int) ≤ nextV n (vInt (intRow v)) (a' + (1 : Int)) (4 : Int) ∧ nextV n (vInt (intRow v)) (a' + (1 : Int)) (4 : Int) < (↑4 : Int)) ∧ z4 ∧ (True ∧ True) ∧ R (.agg [.str (MG.dev m), .int .i64 (MG.seq m), .int .i64 (MG.kind m), .str (VT.o (MG.v m)), .str (VT.p (MG.v m)), .int .i64 (List.getD [(-1 : Int), (0 : Int), (5999 : Int), (6000 : Int)] (Int.toNat z1) (0 : Int)), .int .i64 (VT.day (MG.v m)), .int .i64 (VT.st (MG.v m)), .int .i64 (VT.pr (MG.v m)), .str (VT.rep (MG.v m)), .str (DT.o (MG.d m)), .str (DT.p (MG.d m)), .int .i64 (DT.per (MG.d m)), .str (DT.dev (MG.d m)), .int .i64 (DT.num (MG.d m))]) z0) (condP (decide (nextV n (vInt (intRow v)) a' (16 : Int) = (6 : Int))) ((4 ≤ 16777216 ∧ 1 = 1 ∧ 4 ≤ 9223372036854775807) ∧ (28 = 28 ∧ 1 = 1 ∧ intRow v = intRow (vInt (intRow v)) ∧ ((1 : Int) ≤ (4 : Int) ∧ (4 : Int) ≤ (1000000 : Int)) ∧ (0 : Int) ≤ a' + (1 : Int) ∧ a' + (1 : Int) ≤ z2) ∧ ((0 : Int) ≤ nextV n (vInt (intRow v)) (a' + (1 : Int)) (4 : Int) ∧ nextV n (vInt (intRow v)) (a' + (1 : Int)) (4 : Int) < (↑4 : Int)) ∧ z4 ∧ (True ∧ True) ∧ R (.agg [.str (MG.dev m), .int .i64 (MG.seq m), .int .i64 (MG.kind m), .str (VT.o (MG.v m)), .str (VT.p (MG.v m)), .int .i64 (VT.per (MG.v m)), .int .i64 (List.getD [(-1 : Int), (0 : Int), (182620 : Int), (182621 : Int)] (Int.toNat z1) (0 : Int)), .int .i64 (VT.st (MG.v m)), .int .i64 (VT.pr (MG.v m)), .str (VT.rep (MG.v m)), .str (DT.o (MG.d m)), .str (DT.p (MG.d m)), .int .i64 (DT.per (MG.d m)), .str (DT.dev (MG.d m)), .int .i64 (DT.num (MG.d m))]) z0) (condP (decide (nextV n (vInt (intRow v)) a' (16 : Int) = (7 : Int))) ((28 = 28 ∧ 1 = 1 ∧ intRow v = intRow (vInt (intRow v)) ∧ ((1 : Int) ≤ (7 : Int) ∧ (7 : Int) ≤ (1000000 : Int)) ∧ (0 : Int) ≤ a' + (1 : Int) ∧ a' + (1 : Int) ≤ z2) ∧ (True ∧ True) ∧ R (.agg [.str (MG.dev m), .int .i64 (MG.seq m), .int .i64 (MG.kind m), .str (VT.o (MG.v m)), .str (VT.p (MG.v m)), .int .i64 (VT.per (MG.v m)), .int .i64 (VT.day (MG.v m)), .int .i64 (nextV n (vInt (intRow v)) (a' + (1 : Int)) (7 : Int)), .int .i64 (VT.pr (MG.v m)), .str (VT.rep (MG.v m)), .str (DT.o (MG.d m)), .str (DT.p (MG.d m)), .int .i64 (DT.per (MG.d m)), .str (DT.dev (MG.d m)), .int .i64 (DT.num (MG.d m))]) z0) (condP (decide (nextV n (vInt (intRow v)) a' (16 : Int) = (8 : Int))) ((5 ≤ 16777216 ∧ 1 = 1 ∧ 5 ≤ 9223372036854775807) ∧ (28 = 28 ∧ 1 = 1 ∧ intRow v = intRow (vInt (intRow v)) ∧ ((1 : Int) ≤ (5 : Int) ∧ (5 : Int) ≤ (1000000 : Int)) ∧ (0 : Int) ≤ a' + (1 : Int) ∧ a' + (1 : Int) ≤ z2) ∧ ((0 : Int) ≤ nextV n (vInt (intRow v)) (a' + (1 : Int)) (5 : Int) ∧ nextV n (vInt (intRow v)) (a' + (1 : Int)) (5 : Int) < (↑5 : Int)) ∧ (Int.toNat z6 < 5 ∧ 1 = 1) ∧ (True ∧ True) ∧ R (.agg [.str (MG.dev m), .int .i64 (MG.seq m), .int .i64 (MG.kind m), .str (VT.o (MG.v m)), .str (VT.p (MG.v m)), .int .i64 (VT.per (MG.v m)), .int .i64 (VT.day (MG.v m)), .int .i64 (VT.st (MG.v m)), .int .i64 (List.getD [(-1 : Int), (0 : Int), (1 : Int), (1099511627776 : Int), (1099511627777 : Int)] (Int.toNat z6) (0 : Int)), .str (VT.rep (MG.v m)), .str (DT.o (MG.d m)), .str (DT.p (MG.d m)), .int .i64 (DT.per (MG.d m)), .str (DT.dev (MG.d m)), .int .i64 (DT.num (MG.d m))]) z0) (condP (decide (nextV n (vInt (intRow v)) a' (16 : Int) = (9 : Int))) ((4 ≤ 16777216 ∧ 1 = 1 ∧ 4 ≤ 9223372036854775807) ∧ (28 = 28 ∧ 1 = 1 ∧ intRow v = intRow (vInt (intRow v)) ∧ ((1 : Int) ≤ (4 : Int) ∧ (4 : Int) ≤ (1000000 : Int)) ∧ (0 : Int) ≤ a' + (1 : Int) ∧ a' + (1 : Int) ≤ z2) ∧ ((0 : Int) ≤ nextV n (vInt (intRow v)) (a' + (1 : Int)) (4 : Int) ∧ nextV n (vInt (intRow v)) (a' + (1 : Int)) (4 : Int) < (↑4 : Int)) ∧ z4 ∧ (True ∧ True) ∧ R (.agg [.str (MG.dev m), .int .i64 (MG.seq m), .int .i64 (MG.kind m), .str (VT.o (MG.v m)), .str (VT.p (MG.v m)), .int .i64 (VT.per (MG.v m)), .int .i64 (VT.day (MG.v m)), .int .i64 (VT.st (MG.v m)), .int .i64 (VT.pr (MG.v m)), .str (List.getD [[], [(49 : UInt8), 50, 51, 52, 53, 54, 55, 56], [(57 : UInt8), 54, 51, 56, 53, 48, 55, 52], VT.p (MG.v m)] (Int.toNat z1) []), .str (DT.o (MG.d m)), .str (DT.p (MG.d m)), .int .i64 (DT.per (MG.d m)), .str (DT.dev (MG.d m)), .int .i64 (DT.num (MG.d m))]) z0) (condP (decide (nextV n (vInt (intRow v)) a' (16 : Int) = (10 : Int))) ((4 ≤ 16777216 ∧ 1 = 1 ∧ 4 ≤ 9223372036854775807) ∧ (28 = 28 ∧ 1 = 1 ∧ intRow v = intRow (vInt (intRow v)) ∧ ((1 : Int) ≤ (4 : Int) ∧ (4 : Int) ≤ (1000000 : Int)) ∧ (0 : Int) ≤ a' + (1 : Int) ∧ a' + (1 : Int) ≤ z2) ∧ ((0 : Int) ≤ nextV n (vInt (intRow v)) (a' + (1 : Int)) (4 : Int) ∧ nextV n (vInt (intRow v)) (a' + (1 : Int)) (4 : Int) < (↑4 : Int)) ∧ z4 ∧ (True ∧ True) ∧ R (.agg [.str (MG.dev m), .int .i64 (MG.seq m), .int .i64 (MG.kind m), .str (VT.o (MG.v m)), .str (VT.p (MG.v m)), .int .i64 (VT.per (MG.v m)), .int .i64 (VT.day (MG.v m)), .int .i64 (VT.st (MG.v m)), .int .i64 (VT.pr (MG.v m)), .str (VT.rep (MG.v m)), .str (DT.o (MG.d m)), .str (DT.p (MG.d m)), .int .i64 (DT.per (MG.d m)), .str (DT.dev (MG.d m)), .int .i64 (List.getD [(0 : Int), (1 : Int), (1048576 : Int), (1048577 : Int)] (Int.toNat z1) (0 : Int))]) z0) (condP (decide (nextV n (vInt (intRow v)) a' (16 : Int) = (11 : Int))) ((3 ≤ 16777216 ∧ 1 = 1 ∧ 3 ≤ 9223372036854775807) ∧ (28 = 28 ∧ 1 = 1 ∧ intRow v = intRow (vInt (intRow v)) ∧ ((1 : Int) ≤ (3 : Int) ∧ (3 : Int) ≤ (1000000 : Int)) ∧ (0 : Int) ≤ a' + (1 : Int) ∧ a' + (1 : Int) ≤ z2) ∧ ((0 : Int) ≤ nextV n (vInt (intRow v)) (a' + (1 : Int)) (3 : Int) ∧ nextV n (vInt (intRow v)) (a' + (1 : Int)) (3 : Int) < (↑3 : Int)) ∧ (Int.toNat z3 < 3 ∧ 1 = 1) ∧ (True ∧ True) ∧ R (.agg [.str (MG.dev m), .int .i64 (MG.seq m), .int .i64 (MG.kind m), .str (VT.o (MG.v m)), .str (VT.p (MG.v m)), .int .i64 (VT.per (MG.v m)), .int .i64 (VT.day (MG.v m)), .int .i64 (VT.st (MG.v m)), .int .i64 (VT.pr (MG.v m)), .str (VT.rep (MG.v m)), .str (DT.o (MG.d m)), .str (DT.p (MG.d m)), .int .i64 (DT.per (MG.d m)), .str (List.getD [[], [(45 : UInt8)], [(98 : UInt8)]] (Int.toNat z3) []), .int .i64 (DT.num (MG.d m))]) z0) ((True ∧ True) ∧ R (.agg [.str (MG.dev m), .int .i64 (MG.seq m), .int .i64 (MG.kind m), .str (VT.o (MG.v m)), .str (VT.p (MG.v m)), .int .i64 (VT.per (MG.v m)), .int .i64 (VT.day (MG.v m)), .int .i64 (VT.st (MG.v m)), .int .i64 (VT.pr (MG.v m)), .str (VT.rep (MG.v m)), .str (DT.o (MG.d m)), .str (DT.p (MG.d m)), .int .i64 (DT.per (MG.d m)), .str (DT.dev (MG.d m)), .int .i64 (DT.num (MG.d m))]) [(0, .cells [.view 1 n (intRow v), .int .i64 (a' + (1 : Int))] 28)]))))))))))))) := by kernel_rfl
theorem getD_len {L : List (List UInt8)} {B : Nat} (h : ∀ s ∈ L, s.length ≤ B) (i : Nat) : (List.getD L i []).length ≤ B := by
  rw [List.getD_eq_getElem?_getD]
  cases q : L[i]? with
  | none => exact Nat.zero_le _
  | some s => exact h s (List.mem_of_getElem? q)
theorem MG.Made.sm {m : MG} (h : m.Made) : m.Sm := ⟨by have := h.dev; omega, by have := h.o; omega, by have := h.o'; omega, by have := h.dd; omega⟩
theorem sp11_ok (hP : C.P = Tryz.prog) : RSpecOK C 31 R_sp11 := by
  rintro args objs R h
  unfold R_sp11 at h
  split at h
  · rename_i sz n f a t
    obtain ⟨rfl, rfl, hf, ha, hR⟩ := h
    rw [hf] at hR ⊢
    generalize vInt f = v at *
    have hw : vInt (intRow v) = v := rfl
    refine RSpecOK.wpL (prg hP) [(46, .rel R_mmsg), (27, .det S_next)] [] 0 (.cons (mmsg_ok hP) (.cons (next_ok hP) .nil)) (hP ▸ Tryz.func31) rfl rfl rfl [] (by kernel_rfl) trivial ?_
    rw [nf_sp11, hw]
    refine ⟨rfl, rfl, rfl, by omega, fun m a' hm ha' => ?_⟩
    have sm := hm.sm
    have fin : ∀ (dev : List UInt8) (seq kind : Int) (o p : List UInt8) (per day st pr : Int) (rep o' p' : List UInt8) (per' : Int) (dd : List UInt8) (num a2 : Int), dev.length ≤ 30 → o.length ≤ 30 → o'.length ≤ 30 → dd.length ≤ 30 → (a' ≤ a2 ∧ a2 ≤ a' + 2) →
        R (.agg [.str dev, .int .i64 seq, .int .i64 kind, .str o, .str p, .int .i64 per, .int .i64 day, .int .i64 st, .int .i64 pr, .str rep, .str o', .str p', .int .i64 per', .str dd, .int .i64 num]) [(0, .cells [.view 1 n (intRow v), .int .i64 a2] 28)] := fun dev seq kind o p per day st pr rep o' p' per' dd num a2 l1 l2 l3 l4 ha2 =>
      hR ⟨dev, seq, kind, ⟨o, p, per, day, st, pr, rep⟩, ⟨o', p', per', dd, num⟩⟩ a2 ⟨by show dev.length < _; omega, by show o.length < _; omega, by show o'.length < _; omega, by show dd.length < _; omega⟩ (by omega)
    have d1 : m.dev.length ≤ 30 := by have := hm.dev; omega
    have d2 : m.v.o.length ≤ 30 := by have := hm.o; omega
    have d3 : m.d.o.length ≤ 30 := by have := hm.o'; omega
    have d4 : m.d.dev.length ≤ 30 := by have := hm.dd; omega
    have r2 := nextV_range (show (1 : Int) ≤ 2 by omega) n v (a' + 1)
    have r3 := nextV_range (show (1 : Int) ≤ 3 by omega) n v (a' + 1)
    have r4 := nextV_range (show (1 : Int) ≤ 4 by omega) n v (a' + 1)
    have r5 := nextV_range (show (1 : Int) ≤ 5 by omega) n v (a' + 1)
    have r7 := nextV_range (show (1 : Int) ≤ 7 by omega) n v (a' + 1)
    refine ⟨⟨rfl, rfl, rfl, ⟨by omega, by omega⟩, by omega, by omega⟩, ?_⟩
    have nx : ∀ k : Int, 1 ≤ k → k ≤ 1000000 → (28 = 28 ∧ 1 = 1 ∧ intRow v = intRow (vInt (intRow v)) ∧ (1 ≤ k ∧ k ≤ 1000000) ∧ 0 ≤ a' + 1 ∧ a' + 1 ≤ 4611686018427387904) := fun k k1 k2 => ⟨rfl, rfl, rfl, ⟨k1, k2⟩, by omega, by omega⟩
    have sz : ∀ k : Nat, k ≤ 100 → k ≤ 16777216 ∧ 1 = 1 ∧ k ≤ 9223372036854775807 := fun k hk => ⟨by omega, rfl, by omega⟩
    refine condP_dec (fun _ => ⟨sz 4 (by omega), nx 4 (by omega) (by omega), ⟨by omega, by omega⟩, ⟨by omega, rfl⟩, ⟨trivial, trivial⟩, fin _ _ _ _ _ _ _ _ _ _ _ _ _ _ _ _ (getD_len (by decide) _) d2 d3 d4 (by omega)⟩) (fun _ => ?_)
    refine condP_dec (fun _ => ⟨sz 4 (by omega), nx 4 (by omega) (by omega), ⟨by omega, by omega⟩, ⟨by omega, rfl⟩, ⟨trivial, trivial⟩, fin _ _ _ _ _ _ _ _ _ _ _ _ _ _ _ _ d1 d2 d3 d4 (by omega)⟩) (fun _ => ?_)
    refine condP_dec (fun _ => ⟨nx 4 (by omega) (by omega), ⟨trivial, trivial⟩, fin _ _ _ _ _ _ _ _ _ _ _ _ _ _ _ _ d1 d2 d3 d4 (by omega)⟩) (fun _ => ?_)
    refine condP_dec (fun _ => ⟨sz 2 (by omega), nx 2 (by omega) (by omega), ⟨by omega, by omega⟩, ⟨by omega, rfl⟩, ⟨trivial, trivial⟩, fin _ _ _ _ _ _ _ _ _ _ _ _ _ _ _ _ d1 (getD_len (by decide) _) d3 d4 (by omega)⟩) (fun _ => ?_)
    refine condP_dec (fun _ => ⟨sz 3 (by omega), nx 3 (by omega) (by omega), ⟨by omega, by omega⟩, ⟨by omega, rfl⟩, ⟨trivial, trivial⟩, fin _ _ _ _ _ _ _ _ _ _ _ _ _ _ _ _ d1 d2 d3 d4 (by omega)⟩) (fun _ => ?_)
    refine condP_dec (fun _ => ⟨sz 4 (by omega), nx 4 (by omega) (by omega), ⟨by omega, by omega⟩, ⟨by omega, rfl⟩, ⟨trivial, trivial⟩, fin _ _ _ _ _ _ _ _ _ _ _ _ _ _ _ _ d1 d2 d3 d4 (by omega)⟩) (fun _ => ?_)
    refine condP_dec (fun _ => ⟨sz 4 (by omega), nx 4 (by omega) (by omega), ⟨by omega, by omega⟩, ⟨by omega, rfl⟩, ⟨trivial, trivial⟩, fin _ _ _ _ _ _ _ _ _ _ _ _ _ _ _ _ d1 d2 d3 d4 (by omega)⟩) (fun _ => ?_)
    refine condP_dec (fun _ => ⟨nx 7 (by omega) (by omega), ⟨trivial, trivial⟩, fin _ _ _ _ _ _ _ _ _ _ _ _ _ _ _ _ d1 d2 d3 d4 (by omega)⟩) (fun _ => ?_)
    refine condP_dec (fun _ => ⟨sz 5 (by omega), nx 5 (by omega) (by omega), ⟨by omega, by omega⟩, ⟨by omega, rfl⟩, ⟨trivial, trivial⟩, fin _ _ _ _ _ _ _ _ _ _ _ _ _ _ _ _ d1 d2 d3 d4 (by omega)⟩) (fun _ => ?_)
    refine condP_dec (fun _ => ⟨sz 4 (by omega), nx 4 (by omega) (by omega), ⟨by omega, by omega⟩, ⟨by omega, rfl⟩, ⟨trivial, trivial⟩, fin _ _ _ _ _ _ _ _ _ _ _ _ _ _ _ _ d1 d2 d3 d4 (by omega)⟩) (fun _ => ?_)
    refine condP_dec (fun _ => ⟨sz 4 (by omega), nx 4 (by omega) (by omega), ⟨by omega, by omega⟩, ⟨by omega, rfl⟩, ⟨trivial, trivial⟩, fin _ _ _ _ _ _ _ _ _ _ _ _ _ _ _ _ d1 d2 d3 d4 (by omega)⟩) (fun _ => ?_)
    refine condP_dec (fun _ => ⟨sz 3 (by omega), nx 3 (by omega) (by omega), ⟨by omega, by omega⟩, ⟨by omega, rfl⟩, ⟨trivial, trivial⟩, fin _ _ _ _ _ _ _ _ _ _ _ _ _ _ _ _ d1 d2 d3 (getD_len (by decide) _) (by omega)⟩) (fun _ => ?_)
    exact ⟨⟨trivial, trivial⟩, fin _ _ _ _ _ _ _ _ _ _ _ _ _ _ _ _ d1 d2 d3 d4 (by omega)⟩
  · exact h.elim
end Go.Eng
namespace Go.Eng
open Go.Proofs Go.RowKit
variable {C : Ctx} [C.Loose]
set_option maxRecDepth 20000
end Go.Eng
namespace Go.Eng
open Go.Proofs Go.RowKit
variable {C : Ctx} [C.Loose]
set_option maxRecDepth 20000
theorem nf_period (p : Int) (R : AV → List (Nat × AObj) → Prop) : wpFn te [] [] 0 Tryz.f123 [.int .i64 p] [] R = (condP (decide ((0 : Int) ≤ p)) (R (.bool (decide (p ≤ (5999 : Int)))) []) (R (.bool false) [])) := by kernel_rfl
theorem nf_slotR (o p : List UInt8) (per : Int) (R : AV → List (Nat × AObj) → Prop) : wpFn te [(68, .det S_nameR), (99, .det S_validID), (123, .det S_period)] [] 0 Tryz.f93 [.str o, .str p, .int .i64 per] [] R = (List.length o ≤ 9223372036854775806 ∧ condP (nameF o) (True ∧ condP (validIDF p) (True ∧ R (.bool (decide ((0 : Int) ≤ per) && decide (per ≤ (5999 : Int)))) []) (R (.bool false) [])) (R (.bool false) [])) := by kernel_rfl
theorem period_ok (hP : C.P = Tryz.prog) : SpecOK C 123 S_period := by
  have _ : C.Loose := inferInstance
  rintro args objs U Os vc h hvc
  unfold S_period at h
  split at h <;> simp only [Option.some.injEq, Prod.mk.injEq, reduceCtorEq] at h
  obtain ⟨rfl, rfl, rfl⟩ := h
  refine SpecOK.wp0 (prg hP) [] 0 .nil (hP ▸ Tryz.func123) rfl rfl rfl ?_
  rw [nf_period]
  exact condP_intro (fun h => by rw [h]; exact ⟨rfl, rfl⟩) (fun h => by rw [h]; exact ⟨rfl, rfl⟩)
theorem slotR_ok (hP : C.P = Tryz.prog) : SpecOK C 93 S_slotR := by
  rintro args objs U Os vc h hvc
  unfold S_slotR at h
  split at h <;> simp only [Option.some.injEq, Prod.mk.injEq, reduceCtorEq] at h
  rename_i o p per
  obtain ⟨rfl, rfl, rfl⟩ := h
  refine SpecOK.wp0 (prg hP) [(68, .det S_nameR), (99, .det S_validID), (123, .det S_period)] 0 (.cons (nameR_ok hP) (.cons (validIDR_ok hP) (.cons (period_ok hP) .nil))) (hP ▸ Tryz.func93) rfl rfl rfl ?_
  rw [nf_slotR]
  unfold slotF
  exact ⟨by omega, condP_intro (fun h1 => ⟨trivial, condP_intro (fun h2 => ⟨trivial, by rw [h1, h2, Bool.true_and, Bool.true_and]; exact ⟨rfl, rfl⟩⟩) (fun h2 => by rw [h1, h2]; exact ⟨rfl, rfl⟩)⟩) (fun h1 => by rw [h1]; exact ⟨rfl, rfl⟩)⟩
end Go.Eng
namespace Go.Eng
open Go.Proofs Go.RowKit
variable {C : Ctx} [C.Loose]
set_option maxRecDepth 20000
theorem nf_visitR (o p : List UInt8) (per day st pr : Int) (rep : List UInt8) (R : AV → List (Nat × AObj) → Prop) : wpFn te [(93, .det S_slotR), (99, .det S_validID)] [] 0 Tryz.f69 [.agg [.str o, .str p, .int .i64 per, .int .i64 day, .int .i64 st, .int .i64 pr, .str rep]] [] R = (letI z1 := R (.bool false) []; letI z4 := (condP (decide (pr = (0 : Int))) (R (.bool (decide (rep = []))) []) z1); letI z3 := (condP (decide ((1 : Int) ≤ pr)) (condP (decide (pr ≤ (1099511627776 : Int))) (R (.bool (decide (rep = []))) []) z1) z1); letI z2 := (condP (decide (st = (5 : Int))) (condP (decide ((1 : Int) ≤ pr)) (condP (decide (pr ≤ (1099511627776 : Int))) (True ∧ condP (validIDF rep) (R (.bool !decide (rep = p)) []) z1) z1) z1) z1); letI z0 := (condP (decide (st = (3 : Int))) (condP (decide (st = (3 : Int))) z4 z2) (condP (decide (st = (4 : Int))) z4 z2)); List.length o < 4294967281 ∧ condP (!slotF o p per) z1 (condP (decide (day < (0 : Int))) z1 (condP (decide ((182621 : Int) ≤ day)) z1 (condP (decide (st = (1 : Int))) (condP (decide (st = (1 : Int))) z3 z0) (condP (decide (st = (2 : Int))) z3 z0))))) := by kernel_rfl
theorem nf_decR (o p : List UInt8) (per : Int) (dev : List UInt8) (num : Int) (R : AV → List (Nat × AObj) → Prop) : wpFn te [(93, .det S_slotR), (68, .det S_nameR)] [] 0 Tryz.f70 [.agg [.str o, .str p, .int .i64 per, .str dev, .int .i64 num]] [] R = (List.length o < 4294967281 ∧ condP (slotF o p per) (List.length dev ≤ 9223372036854775806 ∧ condP (nameF dev) (condP (decide ((1 : Int) ≤ num)) (R (.bool (decide (num ≤ (1048576 : Int)))) []) (R (.bool false) [])) (R (.bool false) [])) (R (.bool false) [])) := by kernel_rfl
theorem nf_msgR (m : MG) (R : AV → List (Nat × AObj) → Prop) : wpFn te [(68, .det S_nameR), (69, .det S_visit), (70, .det S_decR)] [] 0 Tryz.f34 [.agg [.str m.dev, .int .i64 m.seq, .int .i64 m.kind, .str m.v.o, .str m.v.p, .int .i64 m.v.per, .int .i64 m.v.day, .int .i64 m.v.st, .int .i64 m.v.pr, .str m.v.rep, .str m.d.o, .str m.d.p, .int .i64 m.d.per, .str m.d.dev, .int .i64 m.d.num]] [] R = (letI z5 := (MG.kind m = (2 : Int)); letI z4 := (MG.kind m = (1 : Int)); letI z1 := (condP (decide z4) (condP (!(decide (DT.o (MG.d m) = []) && (decide (DT.p (MG.d m) = []) && (decide (DT.per (MG.d m) = (0 : Int)) && (decide (DT.dev (MG.d m) = []) && decide (DT.num (MG.d m) = (0 : Int))))))) (R (.int .i64 114) []) (R (.int .i64 0) [])) (R (.int .i64 0) [])); letI z2 := (condP (decide z5) ((List.length (DT.o (MG.d m)) < 4294967281 ∧ List.length (DT.dev (MG.d m)) < 4294967281) ∧ condP (!(slotF (DT.o (MG.d m)) (DT.p (MG.d m)) (DT.per (MG.d m)) && (nameF (DT.dev (MG.d m)) && numF (DT.num (MG.d m))))) (R (.int .i64 114) []) z1) z1); letI z0 := (condP (decide z5) (condP (!(decide (VT.o (MG.v m) = []) && (decide (VT.p (MG.v m) = []) && (decide (VT.per (MG.v m) = (0 : Int)) && (decide (VT.day (MG.v m) = (0 : Int)) && (decide (VT.st (MG.v m) = (0 : Int)) && (decide (VT.pr (MG.v m) = (0 : Int)) && decide (VT.rep (MG.v m) = [])))))))) (R (.int .i64 113) []) z2) z2); letI z3 := (condP (decide z4) (List.length (VT.o (MG.v m)) < 4294967281 ∧ condP (!visF (VT.mk (VT.o (MG.v m)) (VT.p (MG.v m)) (VT.per (MG.v m)) (VT.day (MG.v m)) (VT.st (MG.v m)) (VT.pr (MG.v m)) (VT.rep (MG.v m)))) (R (.int .i64 113) []) z0) z0); List.length (MG.dev m) ≤ 9223372036854775806 ∧ condP (!nameF (MG.dev m)) (R (.int .i64 110) []) (condP (decide (MG.seq m < (1 : Int))) (R (.int .i64 111) []) (condP (decide ((1048576 : Int) < MG.seq m)) (R (.int .i64 111) []) (condP (!decide z4) (condP (!decide z5) (R (.int .i64 112) []) z3) z3)))) := by kernel_rfl
theorem visitR_ok (hP : C.P = Tryz.prog) : SpecOK C 69 S_visit := by
  rintro args objs U Os vc h hvc
  unfold S_visit at h
  split at h <;> simp only [Option.some.injEq, Prod.mk.injEq, reduceCtorEq] at h
  rename_i o p per day st pr rep
  obtain ⟨rfl, rfl, rfl⟩ := h
  refine SpecOK.wp0 (prg hP) [(93, .det S_slotR), (99, .det S_validID)] 0 (.cons (slotR_ok hP) (.cons (validIDR_ok hP) .nil)) (hP ▸ Tryz.func69) rfl rfl rfl ?_
  rw [nf_visitR]
  refine ⟨hvc, condP_not (fun h1 => ?_) (fun h1 => condP_dec (fun h2 => ?_) (fun h2 => condP_dec (fun h3 => ?_) (fun h3 => ?_)))⟩
  · unfold visF; simp [h1]
  · unfold visF; simp [show ¬ 0 ≤ day by omega]
  · unfold visF; simp [show ¬ day ≤ 182620 by omega]
  have hv : visF ⟨o, p, per, day, st, pr, rep⟩ = (bif decide (st = 1) || decide (st = 2) then decide (1 ≤ pr) && decide (pr ≤ 1099511627776) && decide (rep = [])
    else bif decide (st = 3) || decide (st = 4) then decide (pr = 0) && decide (rep = [])
    else bif decide (st = 5) then decide (1 ≤ pr) && decide (pr ≤ 1099511627776) && validIDF rep && !decide (rep = p) else false) := by
    unfold visF; simp only [h1, Bool.true_and, decide_eq_true (show 0 ≤ day by omega), decide_eq_true (show day ≤ 182620 by omega)]
  rw [hv]
  clear hv h1 h2 h3
  by_cases s1 : st = 1
  · subst s1
    generalize decide (1 ≤ pr) = b1, decide (pr ≤ 1099511627776) = b2, decide (pr = 0) = b3, decide (rep = p) = b4, decide (rep = []) = b5, validIDF rep = b6
    cases b1 <;> cases b2 <;> exact ⟨rfl, rfl⟩
  by_cases s2 : st = 2
  · subst s2
    generalize decide (1 ≤ pr) = b1, decide (pr ≤ 1099511627776) = b2, decide (pr = 0) = b3, decide (rep = p) = b4, decide (rep = []) = b5, validIDF rep = b6
    cases b1 <;> cases b2 <;> exact ⟨rfl, rfl⟩
  by_cases s3 : st = 3
  · subst s3
    generalize decide (1 ≤ pr) = b1, decide (pr ≤ 1099511627776) = b2, decide (pr = 0) = b3, decide (rep = p) = b4, decide (rep = []) = b5, validIDF rep = b6
    cases b3 <;> exact ⟨rfl, rfl⟩
  by_cases s4 : st = 4
  · subst s4
    generalize decide (1 ≤ pr) = b1, decide (pr ≤ 1099511627776) = b2, decide (pr = 0) = b3, decide (rep = p) = b4, decide (rep = []) = b5, validIDF rep = b6
    cases b3 <;> exact ⟨rfl, rfl⟩
  by_cases s5 : st = 5
  · subst s5
    generalize decide (1 ≤ pr) = b1, decide (pr ≤ 1099511627776) = b2, decide (pr = 0) = b3, decide (rep = p) = b4, decide (rep = []) = b5, validIDF rep = b6
    cases b1 <;> cases b2 <;> cases b6 <;> first | exact ⟨rfl, rfl⟩ | exact ⟨trivial, rfl, rfl⟩
  rw [decide_eq_false s1, decide_eq_false s2, decide_eq_false s3, decide_eq_false s4, decide_eq_false s5]
  exact ⟨rfl, rfl⟩
theorem decR_ok (hP : C.P = Tryz.prog) : SpecOK C 70 S_decR := by
  rintro args objs U Os vc h hvc
  unfold S_decR at h
  split at h <;> simp only [Option.some.injEq, Prod.mk.injEq, reduceCtorEq] at h
  rename_i o p per dev num
  obtain ⟨rfl, rfl, rfl⟩ := h
  refine SpecOK.wp0 (prg hP) [(93, .det S_slotR), (68, .det S_nameR)] 0 (.cons (slotR_ok hP) (.cons (nameR_ok hP) .nil)) (hP ▸ Tryz.func70) rfl rfl rfl ?_
  rw [nf_decR]
  unfold numF
  generalize slotF o p per = b1, nameF dev = b2, decide (1 ≤ num) = b3, decide (num ≤ 1048576) = b4
  refine ⟨hvc.1, ?_⟩
  cases b1
  · exact ⟨rfl, rfl⟩
  refine ⟨by omega, ?_⟩
  cases b2 <;> cases b3 <;> exact ⟨rfl, rfl⟩
theorem msgR_ok (hP : C.P = Tryz.prog) : SpecOK C 34 S_msg := by
  rintro args objs U Os vc h hvc
  unfold S_msg at h
  split at h <;> simp only [Option.some.injEq, Prod.mk.injEq, reduceCtorEq] at h
  rename_i dev seq kind o p per day st pr rep o2 p2 per2 dev2 num
  obtain ⟨rfl, rfl, rfl⟩ := h
  refine SpecOK.wp0 (prg hP) [(68, .det S_nameR), (69, .det S_visit), (70, .det S_decR)] 0 (.cons (nameR_ok hP) (.cons (visitR_ok hP) (.cons (decR_ok hP) .nil))) (hP ▸ Tryz.func34) rfl rfl rfl ?_
  have nf := fun R => nf_msgR ⟨dev, seq, kind, ⟨o, p, per, day, st, pr, rep⟩, ⟨o2, p2, per2, dev2, num⟩⟩ R
  refine (nf _).mpr ?_
  clear nf
  obtain ⟨l1, l2, l3, l4⟩ := hvc
  unfold msgF VT.nil DT.nil
  dsimp only
  generalize (decide (o = []) && (decide (p = []) && (decide (per = 0) && (decide (day = 0) && (decide (st = 0) && (decide (pr = 0) && decide (rep = []))))))) = vn
  generalize (decide (o2 = []) && (decide (p2 = []) && (decide (per2 = 0) && (decide (dev2 = []) && decide (num = 0))))) = dn
  generalize nameF dev = b1, visF ⟨o, p, per, day, st, pr, rep⟩ = b3, slotF o2 p2 per2 = b4, nameF dev2 = b5, numF num = b6
  refine ⟨by omega, ?_⟩
  cases b1
  · exact ⟨rfl, rfl⟩
  by_cases s1 : seq < 1
  · rw [show numF seq = false by unfold numF; rw [decide_eq_false (show ¬ 1 ≤ seq by omega)]; rfl, decide_eq_true s1]; exact ⟨rfl, rfl⟩
  by_cases s2 : 1048576 < seq
  · rw [show numF seq = false by unfold numF; rw [decide_eq_false (show ¬ seq ≤ 1048576 by omega), Bool.and_false], decide_eq_false s1, decide_eq_true s2]; exact ⟨rfl, rfl⟩
  rw [show numF seq = true by unfold numF; rw [decide_eq_true (show 1 ≤ seq by omega), decide_eq_true (show seq ≤ 1048576 by omega)]; rfl, decide_eq_false s1, decide_eq_false s2]
  by_cases k1 : kind = 1
  · subst k1
    refine ⟨l2, ?_⟩
    cases b3 <;> cases dn <;> exact ⟨rfl, rfl⟩
  by_cases k2 : kind = 2
  · subst k2
    cases vn
    · exact ⟨rfl, rfl⟩
    refine ⟨⟨l3, l4⟩, ?_⟩
    cases b4 <;> cases b5 <;> cases b6 <;> exact ⟨rfl, rfl⟩
  rw [decide_eq_false k1, decide_eq_false k2]
  exact ⟨rfl, rfl⟩
end Go.Eng
namespace Go.Eng
theorem mgOfM {f : Nat → List AV} {i : Nat} {m : MG} (h : f i = mgC m) : mgOf f i = m := by unfold mgOf; rw [h]; rfl
theorem cellsM {f : Nat → List AV} {i : Nat} {m : MG} (h : f i = mgC m) : f i = mgRow (mgOf f) i ∧ nrefL (f i) = true := by
  refine ⟨?_, by rw [h]; rfl⟩
  show f i = mgC (mgOf f i)
  rw [mgOfM h]; exact h
theorem oneI {p : Nat → Prop} (h0 : p 0) : ∀ i, i < 1 → p i := fun i hi => by
  match i, hi with
  | 0, _ => exact h0
theorem cutM_sm (g : Nat → MG) (i : Nat) : (cutM g i).Sm := by
  refine ⟨?_, ?_, ?_, ?_⟩
  · show ((g i).dev.take 30).length < _
    rw [List.length_take]; omega
  · show ((g i).v.o.take 30).length < _
    rw [List.length_take]; omega
  · show ((g i).d.o.take 30).length < _
    rw [List.length_take]; omega
  · show ((g i).d.dev.take 30).length < _
    rw [List.length_take]; omega
end Go.Eng
namespace Go.Eng
open Go.Proofs Go.RowKit
variable {C : Ctx} [C.Loose]
set_option maxRecDepth 20000
theorem nf_lcv (m : MG) (n : Nat) (v : Nat → Int) (R : AV → List (Nat × AObj) → Prop) : wpFn te [(31, .rel R_sp11), (32, .det S_raw11O), (33, .det S_msg), (34, .det S_msg), (35, .det S_awake11)] [] 0 Tryz.f7 [.agg [.str m.dev, .int .i64 m.seq, .int .i64 m.kind, .str m.v.o, .str m.v.p, .int .i64 m.v.per, .int .i64 m.v.day, .int .i64 m.v.st, .int .i64 m.v.pr, .str m.v.rep, .str m.d.o, .str m.d.p, .int .i64 m.d.per, .str m.d.dev, .int .i64 m.d.num], .view 1 n (intRow v)] [] R = (letI z1 := chunkA (TI.sz shrt0) (.str (MG.dev m) :: .int .i64 (MG.seq m) :: .int .i64 (MG.kind m) :: .str (VT.o (MG.v m)) :: .str (VT.p (MG.v m)) :: .int .i64 (VT.per (MG.v m)) :: .int .i64 (VT.day (MG.v m)) :: .int .i64 (VT.st (MG.v m)) :: .int .i64 (VT.pr (MG.v m)) :: .str (VT.rep (MG.v m)) :: .str (DT.o (MG.d m)) :: .str (DT.p (MG.d m)) :: .int .i64 (DT.per (MG.d m)) :: .str (DT.dev (MG.d m)) :: .int .i64 (DT.num (MG.d m)) :: List.append [] shrt1); letI z0 := (cutM (mgOf z1) (Int.toNat (0 : Int))); letI z5 := List.length (MG.dev z0) < 4294967281 ∧ List.length (VT.o (MG.v z0)) < 4294967281 ∧ List.length (DT.o (MG.d z0)) < 4294967281 ∧ List.length (DT.dev (MG.d z0)) < 4294967281; letI z3 := MG.mk (MG.dev z0) (MG.seq z0) (MG.kind z0) (VT.mk (VT.o (MG.v z0)) (VT.p (MG.v z0)) (VT.per (MG.v z0)) (VT.day (MG.v z0)) (VT.st (MG.v z0)) (VT.pr (MG.v z0)) (VT.rep (MG.v z0))) (DT.mk (DT.o (MG.d z0)) (DT.p (MG.d z0)) (DT.per (MG.d z0)) (DT.dev (MG.d z0)) (DT.num (MG.d z0))); 28 = 28 ∧ 1 = 1 ∧ intRow v = intRow (vInt (intRow v)) ∧ ((0 : Int) ≤ (0 : Int) ∧ (0 : Int) ≤ (4611686018427380000 : Int)) ∧ ∀ (m_1 : MG) (a' : Int), letI z4 := List.length (MG.dev m_1) < 4294967281 ∧ List.length (VT.o (MG.v m_1)) < 4294967281 ∧ List.length (DT.o (MG.d m_1)) < 4294967281 ∧ List.length (DT.dev (MG.d m_1)) < 4294967281; letI z2 := MG.mk (MG.dev m_1) (MG.seq m_1) (MG.kind m_1) (VT.mk (VT.o (MG.v m_1)) (VT.p (MG.v m_1)) (VT.per (MG.v m_1)) (VT.day (MG.v m_1)) (VT.st (MG.v m_1)) (VT.pr (MG.v m_1)) (VT.rep (MG.v m_1))) (DT.mk (DT.o (MG.d m_1)) (DT.p (MG.d m_1)) (DT.per (MG.d m_1)) (DT.dev (MG.d m_1)) (DT.num (MG.d m_1))); MG.Sm m_1 → (0 : Int) ≤ a' ∧ a' ≤ (0 : Int) + (12 : Int) → (15 ≤ 16777216 ∧ 15 = 15 ∧ 1 ≤ 9223372036854775807) ∧ (∀ (i : Nat), i < 1 → nrefL (chunkA (TI.sz shrt0) (.str (MG.dev m) :: .int .i64 (MG.seq m) :: .int .i64 (MG.kind m) :: .str (VT.o (MG.v m)) :: .str (VT.p (MG.v m)) :: .int .i64 (VT.per (MG.v m)) :: .int .i64 (VT.day (MG.v m)) :: .int .i64 (VT.st (MG.v m)) :: .int .i64 (VT.pr (MG.v m)) :: .str (VT.rep (MG.v m)) :: .str (DT.o (MG.d m)) :: .str (DT.p (MG.d m)) :: .int .i64 (DT.per (MG.d m)) :: .str (DT.dev (MG.d m)) :: .int .i64 (DT.num (MG.d m)) :: List.append [] shrt1) i) = true) ∧ (1 = 1 ∧ RE z1 1) ∧ ((0 : Int) ≤ (0 : Int) ∧ (0 : Int) < (↑1 : Int) ∧ 15 = 15) ∧ z5 ∧ z5 ∧ condP (decide (msgF z3 = msgF z3)) (z4 ∧ z4 ∧ condP (decide (msgF z2 = msgF z2)) (True ∧ R (.bool true) []) (R (.bool false) [])) (R (.bool false) [])) := by kernel_rfl
theorem lcv_ok (hP : C.P = Tryz.prog) (hL : ∀ w, C.laid w → LaidW w) (m : MG) (n : Nat) (v : Nat → Int) : ADet C 7 [.agg [.str m.dev, .int .i64 m.seq, .int .i64 m.kind, .str m.v.o, .str m.v.p, .int .i64 m.v.per, .int .i64 m.v.day, .int .i64 m.v.st, .int .i64 m.v.pr, .str m.v.rep, .str m.d.o, .str m.d.p, .int .i64 m.d.per, .str m.d.dev, .int .i64 m.d.num], .view 1 n (intRow v)] [] (.bool true) [] := by
  refine SpecOK.wpL (prg hP) [(31, .rel R_sp11), (32, .det S_raw11O), (33, .det S_msg), (34, .det S_msg), (35, .det S_awake11)] [] 0
    (.cons (sp11_ok hP) (.cons (raw11O_ok hP) (.cons (msg_ok hP hL) (.cons (msgR_ok hP) (.cons (awake11_ok hP hL) .nil))))) (hP ▸ Tryz.func7) rfl rfl rfl [] (by kernel_rfl) trivial ?_
  rw [nf_lcv]
  refine ⟨rfl, rfl, rfl, by omega, fun x a' hx _ => ?_⟩
  generalize hf : chunkA _ _ = f
  have f0 : f 0 = mgC m := by rw [← hf]; rfl
  have hc := cutM_sm (mgOf f) 0
  exact ⟨⟨by omega, rfl, by omega⟩, oneI (cellsM f0).2, ⟨rfl, ⟨oneI (cellsM f0).1⟩⟩, ⟨by omega, by show (0 : Int) < 1; omega, rfl⟩, ⟨hc.a, hc.b, hc.c, hc.d⟩, ⟨hc.a, hc.b, hc.c, hc.d⟩, condP_dec (fun _ => ⟨⟨hx.a, hx.b, hx.c, hx.d⟩, ⟨hx.a, hx.b, hx.c, hx.d⟩, condP_dec (fun _ => ⟨trivial, rfl, rfl⟩) (fun q => absurd rfl q)⟩) (fun q => absurd rfl q)⟩
end Go.Eng
namespace Go.Eng
open Go.Proofs Go.RowKit Go.ChangeShapes Go.WideShapes Go.ChangeAt
theorem params_Cv : Tryz.f7.params = #[56, 23] := by kernel_rfl
set_option maxRecDepth 100000 in
theorem lifted_Cv (os : Os) (started : os.Started) (H : Type) (enc : TypeId × Value → H) :
    ReturnsInHanded {} Tryz.checked os 7 .any (fun w args => (Go.Proofs.YtokpcnppihgdlaaGreatDoor.Rows.collectionValidSpec.pre enc Tryz.prog Tryz.f7 [] false w args ∧ laidMetH Tryz.prog Go.Proofs.YtokpcnppihgdlaaGreatDoor.Rows.collectionValidRow.laid w) ∧ sizedMet enc Tryz.prog Tryz.f7 (OpenSpec.ofChange Go.Proofs.YtokpcnppihgdlaaGreatDoor.Rows.collectionValidSpec) false w args)
      (Go.Proofs.YtokpcnppihgdlaaGreatDoor.Rows.collectionValidSpec.post enc Tryz.prog Tryz.f7 false true false false) := by
  refine handed_and_shaped (C := Tryz.checked) (X := fun w _ => laidMetH Tryz.prog Go.Proofs.YtokpcnppihgdlaaGreatDoor.Rows.collectionValidRow.laid w) (fun _ _ _ hh h => h.of_heap hh) ownK started (by kernel_rfl) Tryz.func7
    (ChangeSpec.witness_at (enc := enc) (C := Tryz.checked) (os := os) (X := fun w _ => laidMetH Tryz.prog Go.Proofs.YtokpcnppihgdlaaGreatDoor.Rows.collectionValidRow.laid w) false (laidWorld os) #[.agg #[.string ⟨#[]⟩, .int .i64 0, .int .i64 0, .string ⟨#[]⟩, .string ⟨#[]⟩, .int .i64 0, .int .i64 0, .int .i64 0, .int .i64 0, .string ⟨#[]⟩, .string ⟨#[]⟩, .string ⟨#[]⟩, .int .i64 0, .string ⟨#[]⟩, .int .i64 0], .slice none 0 0] 8 rfl (by kernel_rfl) (by kernel_rfl) (by kernel_rfl) (by kernel_rfl) (by kernel_rfl) (laid_met os _)) ?_
  intro W base args ds gs before hval0 hW hL hsh
  have hval : ∀ (j : Nat) t v, Tryz.f7.params[j]? = some t → args[j]? = some v → Value.okWide Tryz.prog W .any base t v := hval0
  have hW' := hW
  obtain ⟨p, q, hA0, hV, rfl, hfz, hnd⟩ := hW
  have hA : DataW.TrodAll enc Tryz.prog W 0 (fun _ => true) true Tryz.f7.params.toList args.toList ds p := hA0
  rw [params_Cv] at hA hval
  obtain ⟨v0, vs0, d0, ds0, p0, q0, hargs, rfl, rfl, h0, r0⟩ := trodAll_cons hA
  obtain ⟨v1, vs1, d1, ds1, p1, q1, rfl, rfl, rfl, h1, r1⟩ := trodAll_cons r0
  obtain ⟨rfl, rfl, rfl⟩ := trodAll_nil r1
  obtain rfl : args = #[v0, v1] := by cases args; simp_all
  obtain ⟨rfl, rfl⟩ := trodVars_none hV
  obtain ⟨cs0, rfl, hsz0⟩ := okWide_struct undM (hval 0 _ v0 rfl rfl)
  obtain ⟨a1, len1, cap1, rfl⟩ := okWide_slice undIs (hval 1 23 v1 rfl rfl)
  have k0 := h0
  have k1 := h1
  have lt0 : ∀ x ∈ p0, x.block < W.heap.size := by obtain ⟨m, hm⟩ := k0; exact DataW.trod_lt m _ _ _ hm
  have lt1 : ∀ x ∈ p1, x.block < W.heap.size := by obtain ⟨m, hm⟩ := k1; exact DataW.trod_lt m _ _ _ hm
  obtain ⟨m0, hm0⟩ := h0
  obtain ⟨m1, hm1⟩ := h1
  have hm0 : DataW.trod enc Tryz.prog W 0 (fun _ => true) true m0 56 cs0.toList = some (d0, p0) := hm0
  obtain ⟨mm0, V0⟩ := read_msg hm0
  obtain ⟨A1, n1, c1, w1, e1, V1⟩ := read_ints hm1
  have e1 : [Value.slice a1 len1 cap1] = [Value.slice A1 n1 c1] := e1
  simp only [List.cons.injEq, and_true] at e1
  rw [← e1] at V1
  have lw := laidW_of hL hsh
  refine (ADet.top (C := cx) (lcv_ok rfl (fun _ h => h) mm0 n1 w1) lw (gsz_le lw) (cargs := [.agg cs0, .slice a1 len1 cap1]) rfl (fun j x u hx hu => ?_)).mono fun e W' ⟨he, bel⟩ => ?_
  · match j with
    | 0 => obtain rfl := Option.some.inj hx; obtain rfl := Option.some.inj hu; exact V0
    | 1 => obtain rfl := Option.some.inj hx; obtain rfl := Option.some.inj hu; exact V1
    | j + 2 => simp at hx
  · subst he
    exact ⟨_, rfl, _, _, _, [], _, [], hW', trodAll_mk1 (shut_bool (show Tryz.prog.underlying 4 = some .bool by kernel_rfl) _), (trodAll_cons_mk (Below.trod laidOut (by kernel_rfl) (of_decide_eq_true (by kernel_rfl)) k0 bel lt0) (trodAll_cons_mk (Below.trod laidOut (by kernel_rfl) (of_decide_eq_true (by kernel_rfl)) k1 bel lt1) trodAll_mk0)), rfl, bel.frame _, fun h => by cases h⟩
set_option maxRecDepth 100000 in
set_option maxHeartbeats 8000000 in
theorem closed_Cv : joinedFacts Tryz.prog 7 Tryz.f7 Go.Proofs.YtokpcnppihgdlaaGreatDoor.Rows.collectionValidSpec Go.Proofs.YtokpcnppihgdlaaGreatDoor.Rows.collectionValidRow = true := by
  unfold joinedFacts
  simp only [Bool.and_eq_true]
  exact ⟨⟨⟨⟨⟨⟨⟨⟨⟨⟨⟨⟨⟨⟨⟨⟨⟨⟨⟨⟨⟨⟨⟨⟨⟨⟨⟨⟨⟨⟨⟨(by as_aux_lemma => kernel_rfl), laidOut⟩, mapsB⟩, by as_aux_lemma => kernel_rfl⟩, by as_aux_lemma => kernel_rfl⟩, by as_aux_lemma => kernel_rfl⟩, by as_aux_lemma => kernel_rfl⟩, by as_aux_lemma => kernel_rfl⟩, by as_aux_lemma => kernel_rfl⟩, by as_aux_lemma => kernel_rfl⟩, by as_aux_lemma => kernel_rfl⟩, by as_aux_lemma => kernel_rfl⟩, by as_aux_lemma => kernel_rfl⟩, by as_aux_lemma => kernel_rfl⟩, by as_aux_lemma => kernel_rfl⟩, by as_aux_lemma => kernel_rfl⟩, by as_aux_lemma => kernel_rfl⟩, by as_aux_lemma => kernel_rfl⟩, by as_aux_lemma => kernel_rfl⟩, by as_aux_lemma => kernel_rfl⟩, by as_aux_lemma => kernel_rfl⟩, by as_aux_lemma => kernel_rfl⟩, plainB⟩, by as_aux_lemma => kernel_rfl⟩, heardB⟩, enterB⟩, liftB⟩, by as_aux_lemma => kernel_rfl⟩, by as_aux_lemma => kernel_rfl⟩, by as_aux_lemma => kernel_rfl⟩, by as_aux_lemma => kernel_rfl⟩, by as_aux_lemma => kernel_rfl⟩
set_option maxRecDepth 100000 in
theorem inst_Cv : Tryz.f7.isInstance Tryz.prog Go.Proofs.YtokpcnppihgdlaaGreatDoor.Rows.collectionValidRow.origin Go.Proofs.YtokpcnppihgdlaaGreatDoor.Rows.collectionValidRow.targs := of_decide_eq_true (by kernel_rfl)
set_option maxRecDepth 100000 in
theorem over_Cv : Go.Proofs.YtokpcnppihgdlaaGreatDoor.Rows.collectionValidRow.holds Go.Proofs.YtokpcnppihgdlaaGreatDoor.Tryz.pinned (OpenSpec.ofChange Go.Proofs.YtokpcnppihgdlaaGreatDoor.Rows.collectionValidSpec) :=
  OpenClaim.holds_of_wide 7 Tryz.f7 rfl rfl rfl rfl rfl rfl rfl ⟨rfl, rfl, rfl, rfl, rfl⟩ rfl rfl rfl rfl rfl (by kernel_rfl) Tryz.func7 closed_Cv
    inst_Cv (by unfold Func.isWrapper; rw [if_neg (of_decide_eq_false (by kernel_rfl))]; exact ⟨rfl, rfl⟩)
    (fun os started H enc _ => lifted_Cv os started H enc)
end Go.Eng
namespace Go.Proofs.YtokpcnppihgdlaaGreatDoor
open Go
def harB : Bool × String := (true, "9fc102e4074b6cbfcb17ff81fe27951d79d0a08a23044dbb02ad96fa3f9cf2ef")
set_option maxRecDepth 100000 in
theorem mainB : Tryz.prog.mainIs = some (harB.1, harB.2.toList) := by kernel_rfl
set_option maxRecDepth 100000 in
theorem looksB : true = Tryz.prog.looks [] := by kernel_rfl
end Go.Proofs.YtokpcnppihgdlaaGreatDoor
namespace Go.Proofs.YtokpcnppihgdlaaGreatDoor
open Go
set_option maxRecDepth 100000 in
theorem wf_Cv : Rows.collectionValidRow.wfByText (OpenSpec.ofChange Rows.collectionValidSpec) = true := by kernel_rfl
set_option maxRecDepth 100000 in
theorem goes_Cv : false = Rows.collectionValidRow.goesBy Tryz.prog := by kernel_rfl
theorem named_Cv : Tryz.prog.funcNamed "priceoffice/priceofficelaw11.CollectionValid" = some 7 := by kernel_rfl
theorem stand_Cv0 : Tryz.prog.wantsStandIn 56 = false := by kernel_rfl
theorem stand_Cv1 : Tryz.prog.wantsStandIn 23 = false := by kernel_rfl
theorem card_Cv : Rows.CollectionValidCardSaid :=
  Claim7.holds_tied_plain_at .later [] [.data, .data, .data, .data, .sentinel, .sentinel, .pinned] true harB true
    Go.Eng.over_Cv (fun _ h => by cases h) wf_Cv (fun _ h => by cases h) collectionValid_row_tie rfl ⟨rfl, rfl⟩ mainB rfl
    (fun f fn hf hfn => by
      obtain rfl : f = 7 := Option.some.inj (named_Cv.symm.trans hf) |>.symm
      obtain rfl : fn = Tryz.f7 := (Option.some.inj (Tryz.func7.symm.trans hfn)).symm
      exact ⟨looksB, fun j t ht => by
        rw [Go.Eng.params_Cv] at ht
        have h3 : t = 56 ∨ t = 23 := by
          rcases j with _ | _ | j
          · exact .inl (by simpa using ht.symm)
          · exact .inr ((by simpa using ht.symm))
          · simp at ht
        rcases h3 with rfl | rfl
        · exact stand_Cv0
        · exact stand_Cv1⟩)
    goes_Cv
end Go.Proofs.YtokpcnppihgdlaaGreatDoor
