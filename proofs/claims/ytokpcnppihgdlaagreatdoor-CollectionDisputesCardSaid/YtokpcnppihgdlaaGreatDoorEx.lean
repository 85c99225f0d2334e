/- Resolve: what it answers. -/
import Derived.Test.YtokpcnppihgdlaaGreatDoorEt
import Derived.Test.YtokpcnppihgdlaaGreatDoorEp
import Derived.Test.YtokpcnppihgdlaaGreatDoorEw
import Derived.Test.YtokpcnppihgdlaaGreatDoorEv
namespace Go.Eng
open Go.Proofs Go.RowKit
variable {C : Ctx} [C.Loose]
set_option maxRecDepth 20000
theorem nf_device (n : Nat) (v : Nat → Int) (a : Int) (R : AV → List (Nat × AObj) → Prop) : wpFn te [(27, .det S_next)] [] 0 Tryz.f44 [.ptr 0 0] [.cells [.view 1 n (intRow v), .int .i64 a] 28] R = ((3 ≤ 16777216 ∧ 1 = 1 ∧ 3 ≤ 9223372036854775807) ∧ (28 = 28 ∧ 1 = 1 ∧ intRow v = intRow (vInt (intRow v)) ∧ ((1 : Int) ≤ (3 : Int) ∧ (3 : Int) ≤ (1000000 : Int)) ∧ (0 : Int) ≤ a ∧ a ≤ (4611686018427387904 : Int)) ∧ ((0 : Int) ≤ nextV n (vInt (intRow v)) a (3 : Int) ∧ nextV n (vInt (intRow v)) a (3 : Int) < (↑3 : Int)) ∧ (Int.toNat (nextV n (vInt (intRow v)) a (3 : Int)) < 3 ∧ 1 = 1) ∧ R (.str (List.getD [[(97 : UInt8)], [(98 : UInt8)], [(99 : UInt8)]] (Int.toNat (nextV n (vInt (intRow v)) a (3 : Int))) [])) [(0, .cells [.view 1 n (intRow v), .int .i64 (a + (1 : Int))] 28)]) := by kernel_rfl
theorem nf_mvisit (n : Nat) (v : Nat → Int) (a : Int) (R : AV → List (Nat × AObj) → Prop) : wpFn te [(27, .det S_next), (47, .det S_outlet), (48, .det S_product), (43, .det S_id)] [] 3 Tryz.f45 [.ptr 0 0] [.cells [.view 1 n (intRow v), .int .i64 a] 28] R = (letI z17 := (4611686018427387904 : Int); letI z16 := (4611686018427387000 : Int); letI z15 := (Int.toNat ((48 : Int) + Prod.fst (cdF (id7 (4 : Int))))); letI z13 := (a + (1 : Int) + (1 : Int)); letI z12 := (a + (1 : Int) + (1 : Int) + (1 : Int) + (1 : Int)); letI z18 := (nextV n (vInt (intRow v)) z12 (7 : Int)); letI z11 := (a + (1 : Int) + (1 : Int) + (1 : Int) + (1 : Int) + (1 : Int) + (1 : Int)); letI z19 := (nextV n (vInt (intRow v)) z11 (4 : Int)); letI z10 := (outF (nextV n (vInt (intRow v)) a (3 : Int))); letI z9 := (a + (1 : Int) + (1 : Int) + (1 : Int)); letI z8 := ([(0, .cells [.view 1 n (intRow v), .int .i64 (a + (1 : Int) + (1 : Int) + (1 : Int) + (1 : Int) + (1 : Int) + (1 : Int) + (1 : Int))] 28)] : List (Nat × AObj)); letI z7 := ([(0, .cells [.view 1 n (intRow v), .int .i64 z11] 28)] : List (Nat × AObj)); letI z6 := (nextV n (vInt (intRow v)) (a + (1 : Int)) (4 : Int)); letI z5 := (a + (1 : Int) + (1 : Int) + (1 : Int) + (1 : Int) + (1 : Int)); letI z4 := (Int.toNat z18); letI z14 := (decide ((1 : Int) + List.getD [(0 : Int), (0 : Int), (0 : Int), (1 : Int), (2 : Int), (3 : Int), (4 : Int)] z4 (0 : Int) = (5 : Int))); letI z3 := ([.str z10, .str (idF z6), .int .i64 ((1440 : Int) + nextV n (vInt (intRow v)) z13 (4 : Int)), .int .i64 ((43830 : Int) + nextV n (vInt (intRow v)) z9 (100 : Int)), .int .i64 ((1 : Int) + List.getD [(0 : Int), (0 : Int), (0 : Int), (1 : Int), (2 : Int), (3 : Int), (4 : Int)] z4 (0 : Int)), .int .i64 0, .str [(fun (i : Nat) => UInt8.ofNat (Int.toNat (intOf (List.headD (idRow (idV (4 : Int)) i) .any)))) (nat_lit 0), (fun (i : Nat) => UInt8.ofNat (Int.toNat (intOf (List.headD (idRow (idV (4 : Int)) i) .any)))) (nat_lit 1), (fun (i : Nat) => UInt8.ofNat (Int.toNat (intOf (List.headD (idRow (idV (4 : Int)) i) .any)))) (nat_lit 2), (fun (i : Nat) => UInt8.ofNat (Int.toNat (intOf (List.headD (idRow (idV (4 : Int)) i) .any)))) (nat_lit 3), (fun (i : Nat) => UInt8.ofNat (Int.toNat (intOf (List.headD (idRow (idV (4 : Int)) i) .any)))) (nat_lit 4), (fun (i : Nat) => UInt8.ofNat (Int.toNat (intOf (List.headD (idRow (idV (4 : Int)) i) .any)))) (nat_lit 5), (fun (i : Nat) => UInt8.ofNat (Int.toNat (intOf (List.headD (idRow (idV (4 : Int)) i) .any)))) (nat_lit 6), UInt8.ofNat z15]] : List AV); letI z2 := ([.str z10, .str (idF z6), .int .i64 ((1440 : Int) + nextV n (vInt (intRow v)) z13 (4 : Int)), .int .i64 ((43830 : Int) + nextV n (vInt (intRow v)) z9 (100 : Int)), .int .i64 ((1 : Int) + List.getD [(0 : Int), (0 : Int), (0 : Int), (1 : Int), (2 : Int), (3 : Int), (4 : Int)] z4 (0 : Int)), .int .i64 ((100 : Int) + nextV n (vInt (intRow v)) z5 (4 : Int) * (5 : Int)), .str [(fun (i : Nat) => UInt8.ofNat (Int.toNat (intOf (List.headD (idRow (idV (4 : Int)) i) .any)))) (nat_lit 0), (fun (i : Nat) => UInt8.ofNat (Int.toNat (intOf (List.headD (idRow (idV (4 : Int)) i) .any)))) (nat_lit 1), (fun (i : Nat) => UInt8.ofNat (Int.toNat (intOf (List.headD (idRow (idV (4 : Int)) i) .any)))) (nat_lit 2), (fun (i : Nat) => UInt8.ofNat (Int.toNat (intOf (List.headD (idRow (idV (4 : Int)) i) .any)))) (nat_lit 3), (fun (i : Nat) => UInt8.ofNat (Int.toNat (intOf (List.headD (idRow (idV (4 : Int)) i) .any)))) (nat_lit 4), (fun (i : Nat) => UInt8.ofNat (Int.toNat (intOf (List.headD (idRow (idV (4 : Int)) i) .any)))) (nat_lit 5), (fun (i : Nat) => UInt8.ofNat (Int.toNat (intOf (List.headD (idRow (idV (4 : Int)) i) .any)))) (nat_lit 6), UInt8.ofNat z15]] : List AV); letI z1 := (decide ([(fun (i : Nat) => UInt8.ofNat (Int.toNat (intOf (List.headD (idRow (idV (4 : Int)) i) .any)))) (nat_lit 0), (fun (i : Nat) => UInt8.ofNat (Int.toNat (intOf (List.headD (idRow (idV (4 : Int)) i) .any)))) (nat_lit 1), (fun (i : Nat) => UInt8.ofNat (Int.toNat (intOf (List.headD (idRow (idV (4 : Int)) i) .any)))) (nat_lit 2), (fun (i : Nat) => UInt8.ofNat (Int.toNat (intOf (List.headD (idRow (idV (4 : Int)) i) .any)))) (nat_lit 3), (fun (i : Nat) => UInt8.ofNat (Int.toNat (intOf (List.headD (idRow (idV (4 : Int)) i) .any)))) (nat_lit 4), (fun (i : Nat) => UInt8.ofNat (Int.toNat (intOf (List.headD (idRow (idV (4 : Int)) i) .any)))) (nat_lit 5), (fun (i : Nat) => UInt8.ofNat (Int.toNat (intOf (List.headD (idRow (idV (4 : Int)) i) .any)))) (nat_lit 6), UInt8.ofNat z15] = idF z6)); letI z0 := (condP z14 ((28 = 28 ∧ 1 = 1 ∧ intRow v = intRow (vInt (intRow v)) ∧ (0 : Int) ≤ a + (1 : Int) + (1 : Int) + (1 : Int) + (1 : Int) + (1 : Int) ∧ a + (1 : Int) + (1 : Int) + (1 : Int) + (1 : Int) + (1 : Int) ≤ z16) ∧ condP (decide (idF (nextV n (vInt (intRow v)) z5 (4 : Int)) = idF z6)) (True ∧ condP z1 (True ∧ condP z1 (True ∧ False) ((True ∧ True) ∧ R (.agg z3) z7)) ((True ∧ True) ∧ R (.agg z3) z7)) ((True ∧ True) ∧ R (.agg [.str z10, .str (idF z6), .int .i64 ((1440 : Int) + nextV n (vInt (intRow v)) z13 (4 : Int)), .int .i64 ((43830 : Int) + nextV n (vInt (intRow v)) z9 (100 : Int)), .int .i64 ((1 : Int) + List.getD [(0 : Int), (0 : Int), (0 : Int), (1 : Int), (2 : Int), (3 : Int), (4 : Int)] z4 (0 : Int)), .int .i64 0, .str (idF (nextV n (vInt (intRow v)) z5 (4 : Int)))]) z7)) ((True ∧ True) ∧ R (.agg [.str z10, .str (idF z6), .int .i64 ((1440 : Int) + nextV n (vInt (intRow v)) z13 (4 : Int)), .int .i64 ((43830 : Int) + nextV n (vInt (intRow v)) z9 (100 : Int)), .int .i64 ((1 : Int) + List.getD [(0 : Int), (0 : Int), (0 : Int), (1 : Int), (2 : Int), (3 : Int), (4 : Int)] z4 (0 : Int)), .int .i64 0, .str []]) [(0, .cells [.view 1 n (intRow v), .int .i64 z5] 28)])); (28 = 28 ∧ 1 = 1 ∧ intRow v = intRow (vInt (intRow v)) ∧ (0 : Int) ≤ a ∧ a ≤ z16) ∧ (28 = 28 ∧ 1 = 1 ∧ intRow v = intRow (vInt (intRow v)) ∧ (0 : Int) ≤ a + (1 : Int) ∧ a + (1 : Int) ≤ z16) ∧ (28 = 28 ∧ 1 = 1 ∧ intRow v = intRow (vInt (intRow v)) ∧ ((1 : Int) ≤ (4 : Int) ∧ (4 : Int) ≤ (1000000 : Int)) ∧ (0 : Int) ≤ a + (1 : Int) + (1 : Int) ∧ a + (1 : Int) + (1 : Int) ≤ z17) ∧ inR .i64 ((1440 : Int) + nextV n (vInt (intRow v)) z13 (4 : Int)) ∧ (28 = 28 ∧ 1 = 1 ∧ intRow v = intRow (vInt (intRow v)) ∧ ((1 : Int) ≤ (100 : Int) ∧ (100 : Int) ≤ (1000000 : Int)) ∧ (0 : Int) ≤ a + (1 : Int) + (1 : Int) + (1 : Int) ∧ a + (1 : Int) + (1 : Int) + (1 : Int) ≤ z17) ∧ inR .i64 ((43830 : Int) + nextV n (vInt (intRow v)) z9 (100 : Int)) ∧ (7 ≤ 16777216 ∧ 1 = 1 ∧ 7 ≤ 9223372036854775807) ∧ (28 = 28 ∧ 1 = 1 ∧ intRow v = intRow (vInt (intRow v)) ∧ ((1 : Int) ≤ (7 : Int) ∧ (7 : Int) ≤ (1000000 : Int)) ∧ (0 : Int) ≤ a + (1 : Int) + (1 : Int) + (1 : Int) + (1 : Int) ∧ a + (1 : Int) + (1 : Int) + (1 : Int) + (1 : Int) ≤ z17) ∧ ((0 : Int) ≤ nextV n (vInt (intRow v)) z12 (7 : Int) ∧ nextV n (vInt (intRow v)) z12 (7 : Int) < (↑7 : Int)) ∧ (Int.toNat z18 < 7 ∧ 1 = 1) ∧ inR .i64 ((1 : Int) + List.getD [(0 : Int), (0 : Int), (0 : Int), (1 : Int), (2 : Int), (3 : Int), (4 : Int)] z4 (0 : Int)) ∧ condP (!decide ((1 : Int) + List.getD [(0 : Int), (0 : Int), (0 : Int), (1 : Int), (2 : Int), (3 : Int), (4 : Int)] z4 (0 : Int) = (3 : Int))) (condP (!decide ((1 : Int) + List.getD [(0 : Int), (0 : Int), (0 : Int), (1 : Int), (2 : Int), (3 : Int), (4 : Int)] z4 (0 : Int) = (4 : Int))) ((28 = 28 ∧ 1 = 1 ∧ intRow v = intRow (vInt (intRow v)) ∧ ((1 : Int) ≤ (4 : Int) ∧ (4 : Int) ≤ (1000000 : Int)) ∧ (0 : Int) ≤ a + (1 : Int) + (1 : Int) + (1 : Int) + (1 : Int) + (1 : Int) ∧ a + (1 : Int) + (1 : Int) + (1 : Int) + (1 : Int) + (1 : Int) ≤ z17) ∧ inR .i64 (nextV n (vInt (intRow v)) z5 (4 : Int) * (5 : Int)) ∧ inR .i64 ((100 : Int) + nextV n (vInt (intRow v)) z5 (4 : Int) * (5 : Int)) ∧ condP z14 ((28 = 28 ∧ 1 = 1 ∧ intRow v = intRow (vInt (intRow v)) ∧ (0 : Int) ≤ a + (1 : Int) + (1 : Int) + (1 : Int) + (1 : Int) + (1 : Int) + (1 : Int) ∧ a + (1 : Int) + (1 : Int) + (1 : Int) + (1 : Int) + (1 : Int) + (1 : Int) ≤ z16) ∧ condP (decide (idF z19 = idF z6)) (True ∧ condP z1 (True ∧ condP z1 (True ∧ False) ((True ∧ True) ∧ R (.agg z2) z8)) ((True ∧ True) ∧ R (.agg z2) z8)) ((True ∧ True) ∧ R (.agg [.str z10, .str (idF z6), .int .i64 ((1440 : Int) + nextV n (vInt (intRow v)) z13 (4 : Int)), .int .i64 ((43830 : Int) + nextV n (vInt (intRow v)) z9 (100 : Int)), .int .i64 ((1 : Int) + List.getD [(0 : Int), (0 : Int), (0 : Int), (1 : Int), (2 : Int), (3 : Int), (4 : Int)] z4 (0 : Int)), .int .i64 ((100 : Int) + nextV n (vInt (intRow v)) z5 (4 : Int) * (5 : Int)), .str (idF z19)]) z8)) ((True ∧ True) ∧ R (.agg [.str z10, .str (idF z6), .int .i64 ((1440 : Int) + nextV n (vInt (intRow v)) z13 (4 : Int)), .int .i64 ((43830 : Int) + nextV n (vInt (intRow v)) z9 (100 : Int)), .int .i64 ((1 : Int) + List.getD [(0 : Int), (0 : Int), (0 : Int), (1 : Int), (2 : Int), (3 : Int), (4 : Int)] z4 (0 : Int)), .int .i64 ((100 : Int) + nextV n (vInt (intRow v)) z5 (4 : Int) * (5 : Int)), .str []]) z7)) z0) z0) := by kernel_rfl
theorem nf_mmsg (n : Nat) (v : Nat → Int) (a : Int) (R : AV → List (Nat × AObj) → Prop) : wpFn te [(27, .det S_next), (47, .det S_outlet), (48, .det S_product), (44, .det S_device), (45, .rel R_visit)] [] 0 Tryz.f46 [.ptr 0 0] [.cells [.view 1 n (intRow v), .int .i64 a] 28] R = (letI z4 := (devF (nextV n (vInt (intRow v)) a (3 : Int))); letI z3 := (a + (1 : Int) + (1 : Int) + (1 : Int) + (1 : Int) + (1 : Int)); letI z2 := (4611686018427387904 : Int); letI z1 := (4611686018427387000 : Int); letI z0 := (a + (1 : Int) + (1 : Int) + (1 : Int) + (1 : Int) + (1 : Int) + (1 : Int) + (1 : Int)); (28 = 28 ∧ 1 = 1 ∧ intRow v = intRow (vInt (intRow v)) ∧ (0 : Int) ≤ a ∧ a ≤ z1) ∧ (28 = 28 ∧ 1 = 1 ∧ intRow v = intRow (vInt (intRow v)) ∧ ((1 : Int) ≤ (9 : Int) ∧ (9 : Int) ≤ (1000000 : Int)) ∧ (0 : Int) ≤ a + (1 : Int) ∧ a + (1 : Int) ≤ z2) ∧ inR .i64 ((1 : Int) + nextV n (vInt (intRow v)) (a + (1 : Int)) (9 : Int)) ∧ (28 = 28 ∧ 1 = 1 ∧ intRow v = intRow (vInt (intRow v)) ∧ ((1 : Int) ≤ (5 : Int) ∧ (5 : Int) ≤ (1000000 : Int)) ∧ (0 : Int) ≤ a + (1 : Int) + (1 : Int) ∧ a + (1 : Int) + (1 : Int) ≤ z2) ∧ condP (decide (nextV n (vInt (intRow v)) (a + (1 : Int) + (1 : Int)) (5 : Int) = (0 : Int))) ((28 = 28 ∧ 1 = 1 ∧ intRow v = intRow (vInt (intRow v)) ∧ (0 : Int) ≤ a + (1 : Int) + (1 : Int) + (1 : Int) ∧ a + (1 : Int) + (1 : Int) + (1 : Int) ≤ z1) ∧ (28 = 28 ∧ 1 = 1 ∧ intRow v = intRow (vInt (intRow v)) ∧ (0 : Int) ≤ a + (1 : Int) + (1 : Int) + (1 : Int) + (1 : Int) ∧ a + (1 : Int) + (1 : Int) + (1 : Int) + (1 : Int) ≤ z1) ∧ (28 = 28 ∧ 1 = 1 ∧ intRow v = intRow (vInt (intRow v)) ∧ ((1 : Int) ≤ (4 : Int) ∧ (4 : Int) ≤ (1000000 : Int)) ∧ (0 : Int) ≤ a + (1 : Int) + (1 : Int) + (1 : Int) + (1 : Int) + (1 : Int) ∧ a + (1 : Int) + (1 : Int) + (1 : Int) + (1 : Int) + (1 : Int) ≤ z2) ∧ inR .i64 ((1440 : Int) + nextV n (vInt (intRow v)) z3 (4 : Int)) ∧ (28 = 28 ∧ 1 = 1 ∧ intRow v = intRow (vInt (intRow v)) ∧ (0 : Int) ≤ a + (1 : Int) + (1 : Int) + (1 : Int) + (1 : Int) + (1 : Int) + (1 : Int) ∧ a + (1 : Int) + (1 : Int) + (1 : Int) + (1 : Int) + (1 : Int) + (1 : Int) ≤ z1) ∧ (28 = 28 ∧ 1 = 1 ∧ intRow v = intRow (vInt (intRow v)) ∧ ((1 : Int) ≤ (9 : Int) ∧ (9 : Int) ≤ (1000000 : Int)) ∧ (0 : Int) ≤ a + (1 : Int) + (1 : Int) + (1 : Int) + (1 : Int) + (1 : Int) + (1 : Int) + (1 : Int) ∧ a + (1 : Int) + (1 : Int) + (1 : Int) + (1 : Int) + (1 : Int) + (1 : Int) + (1 : Int) ≤ z2) ∧ inR .i64 ((1 : Int) + nextV n (vInt (intRow v)) z0 (9 : Int)) ∧ (True ∧ True) ∧ R (.agg [.str z4, .int .i64 ((1 : Int) + nextV n (vInt (intRow v)) (a + (1 : Int)) (9 : Int)), .int .i64 2, .str [], .str [], .int .i64 0, .int .i64 0, .int .i64 0, .int .i64 0, .str [], .str (outF (nextV n (vInt (intRow v)) (a + (1 : Int) + (1 : Int) + (1 : Int)) (3 : Int))), .str (idF (nextV n (vInt (intRow v)) (a + (1 : Int) + (1 : Int) + (1 : Int) + (1 : Int)) (4 : Int))), .int .i64 ((1440 : Int) + nextV n (vInt (intRow v)) z3 (4 : Int)), .str (devF (nextV n (vInt (intRow v)) (a + (1 : Int) + (1 : Int) + (1 : Int) + (1 : Int) + (1 : Int) + (1 : Int)) (3 : Int))), .int .i64 ((1 : Int) + nextV n (vInt (intRow v)) z0 (9 : Int))]) [(0, .cells [.view 1 n (intRow v), .int .i64 (a + (1 : Int) + (1 : Int) + (1 : Int) + (1 : Int) + (1 : Int) + (1 : Int) + (1 : Int) + (1 : Int))] 28)]) (28 = 28 ∧ 1 = 1 ∧ intRow v = intRow (vInt (intRow v)) ∧ ((0 : Int) ≤ a + (1 : Int) + (1 : Int) + (1 : Int) ∧ a + (1 : Int) + (1 : Int) + (1 : Int) ≤ (4611686018427386000 : Int)) ∧ ∀ (x : VT) (a' : Int), VT.Made x → a + (1 : Int) + (1 : Int) + (1 : Int) ≤ a' ∧ a' ≤ a + (1 : Int) + (1 : Int) + (1 : Int) + (7 : Int) → (True ∧ True) ∧ R (.agg [.str z4, .int .i64 ((1 : Int) + nextV n (vInt (intRow v)) (a + (1 : Int)) (9 : Int)), .int .i64 1, .str (VT.o x), .str (VT.p x), .int .i64 (VT.per x), .int .i64 (VT.day x), .int .i64 (VT.st x), .int .i64 (VT.pr x), .str (VT.rep x), .str [], .str [], .int .i64 0, .str [], .int .i64 0]) [(0, .cells [.view 1 n (intRow v), .int .i64 a'] 28)])) := by kernel_rfl
theorem device_ok (hP : C.P = Tryz.prog) : SpecOK C 44 S_device := by
  rintro args objs U Os vc h hvc
  unfold S_device at h
  split at h <;> simp only [Option.some.injEq, Prod.mk.injEq, reduceCtorEq] at h
  rename_i sz n f a t
  obtain ⟨rfl, rfl, rfl⟩ := h
  obtain ⟨rfl, rfl, hf, h1, h2⟩ := hvc
  rw [hf]
  generalize vInt f = v
  have hw : vInt (intRow v) = v := rfl
  refine SpecOK.wp0 (prg hP) [(27, .det S_next)] 0 (.cons (next_ok hP) .nil) (hP ▸ Tryz.func44) rfl rfl rfl ?_
  rw [nf_device]
  have r := nextV_range (show (1 : Int) ≤ 3 by omega) n v a
  exact ⟨⟨by omega, rfl, by omega⟩, ⟨rfl, rfl, rfl, ⟨by omega, by omega⟩, by omega, by omega⟩, ⟨r.1, r.2⟩, ⟨by rw [hw]; omega, rfl⟩, rfl, rfl⟩
theorem stF : ∀ i : Nat, i < 7 → 1 ≤ 1 + List.getD [(0 : Int), 0, 0, 1, 2, 3, 4] i 0 ∧ 1 + List.getD [(0 : Int), 0, 0, 1, 2, 3, 4] i 0 ≤ 5 := by decide
theorem idF4i {x : Int} (h : 0 ≤ x ∧ x < 4) : ¬ idF 4 = idF x := by
  have := idF4 x.toNat (by omega)
  rwa [show ((x.toNat : Nat) : Int) = x by omega] at this
theorem vis_made {o p : List UInt8} {per day st pr : Int} {rep : List UInt8} (ho : nameF o = true) (hp : validIDF p = true) (hper : 0 ≤ per ∧ per ≤ 5999) (hday : 0 ≤ day ∧ day ≤ 182620)
    (h : ((st = 1 ∨ st = 2) ∧ (1 ≤ pr ∧ pr ≤ 1099511627776) ∧ rep = []) ∨ ((st = 3 ∨ st = 4) ∧ pr = 0 ∧ rep = []) ∨ (st = 5 ∧ (1 ≤ pr ∧ pr ≤ 1099511627776) ∧ validIDF rep = true ∧ ¬ rep = p)) : visF ⟨o, p, per, day, st, pr, rep⟩ = true := by
  unfold visF slotF
  dsimp only
  rw [ho, hp, decide_eq_true hper.1, decide_eq_true hper.2, decide_eq_true hday.1, decide_eq_true hday.2]
  rcases h with ⟨q | q, ⟨h1, h2⟩, h3⟩ | ⟨q | q, h1, h2⟩ | ⟨q, ⟨h1, h2⟩, h3, h4⟩
  · subst q; subst h3; rw [decide_eq_true h1, decide_eq_true h2]; rfl
  · subst q; subst h3; rw [decide_eq_true h1, decide_eq_true h2]; rfl
  · subst q; subst h1; subst h2; rfl
  · subst q; subst h1; subst h2; rfl
  · subst q; rw [decide_eq_true h1, decide_eq_true h2, h3, decide_eq_false h4]; rfl
theorem msg_madeV {dev : List UInt8} {seq : Int} {x : VT} (hd : nameF dev = true) (hs : 1 ≤ seq ∧ seq ≤ 1048576) (hx : visF x = true) : msgF ⟨dev, seq, 1, x, ⟨[], [], 0, [], 0⟩⟩ = 0 := by
  unfold msgF numF
  dsimp only
  rw [hd, hx, decide_eq_true hs.1, decide_eq_true hs.2]; rfl
theorem msg_madeD {dev : List UInt8} {seq : Int} {o p : List UInt8} {per : Int} {dd : List UInt8} {num : Int} (hd : nameF dev = true) (hs : 1 ≤ seq ∧ seq ≤ 1048576) (h : slotF o p per = true) (h' : nameF dd = true) (hn : 1 ≤ num ∧ num ≤ 1048576) :
    msgF ⟨dev, seq, 2, ⟨[], [], 0, 0, 0, 0, []⟩, ⟨o, p, per, dd, num⟩⟩ = 0 := by
  unfold msgF numF
  dsimp only
  rw [hd, h, h', decide_eq_true hs.1, decide_eq_true hs.2, decide_eq_true hn.1, decide_eq_true hn.2]; rfl
theorem slot_made {o p : List UInt8} {per : Int} (ho : nameF o = true) (hp : validIDF p = true) (hper : 0 ≤ per ∧ per ≤ 5999) : slotF o p per = true := by
  unfold slotF
  rw [ho, hp, decide_eq_true hper.1, decide_eq_true hper.2]; rfl
theorem mvisit_ok (hP : C.P = Tryz.prog) : RSpecOK C 45 R_visit := by
  rintro args objs R h
  unfold R_visit at h
  split at h
  · rename_i sz n f a t
    obtain ⟨rfl, rfl, hf, ha, hR⟩ := h
    rw [hf] at hR ⊢
    generalize vInt f = v at *
    have hw : vInt (intRow v) = v := rfl
    refine RSpecOK.wpL (prg hP) [(27, .det S_next), (47, .det S_outlet), (48, .det S_product), (43, .det S_id)] [] 3 (.cons (next_ok hP) (.cons (outlet_ok hP) (.cons (tproduct_ok hP) (.cons (id_ok hP) .nil)))) (hP ▸ Tryz.func45) rfl rfl rfl [] (by kernel_rfl) trivial ?_
    rw [nf_mvisit, hw]
    have r1 := nextV_range (show (1 : Int) ≤ 3 by omega) n v a
    have r2 := nextV_range (show (1 : Int) ≤ 4 by omega) n v (a + 1)
    have r3 := nextV_range (show (1 : Int) ≤ 4 by omega) n v (a + 1 + 1)
    have r4 := nextV_range (show (1 : Int) ≤ 100 by omega) n v (a + 1 + 1 + 1)
    have r5 := nextV_range (show (1 : Int) ≤ 7 by omega) n v (a + 1 + 1 + 1 + 1)
    have r6 := nextV_range (show (1 : Int) ≤ 4 by omega) n v (a + 1 + 1 + 1 + 1 + 1)
    have hst := stF (nextV n v (a + 1 + 1 + 1 + 1) 7).toNat (by omega)
    have ho := outF_ok (nextV n v a 3).toNat (by omega)
    have key : ∀ (st pr : Int) (rep : List UInt8) (a' : Int), (((st = 1 ∨ st = 2) ∧ (1 ≤ pr ∧ pr ≤ 1099511627776) ∧ rep = []) ∨ ((st = 3 ∨ st = 4) ∧ pr = 0 ∧ rep = []) ∨ (st = 5 ∧ (1 ≤ pr ∧ pr ≤ 1099511627776) ∧ validIDF rep = true ∧ ¬ rep = idF (nextV n v (a + 1) 4))) → (a ≤ a' ∧ a' ≤ a + 7) →
        R (.agg [.str (outF (nextV n v a 3)), .str (idF (nextV n v (a + 1) 4)), .int .i64 (1440 + nextV n v (a + 1 + 1) 4), .int .i64 (43830 + nextV n v (a + 1 + 1 + 1) 100), .int .i64 st, .int .i64 pr, .str rep]) [(0, .cells [.view 1 n (intRow v), .int .i64 a'] 28)] := fun st pr rep a' h1 h2 =>
      hR ⟨outF (nextV n v a 3), idF (nextV n v (a + 1) 4), 1440 + nextV n v (a + 1 + 1) 4, 43830 + nextV n v (a + 1 + 1 + 1) 100, st, pr, rep⟩ a' ⟨vis_made ho.1 (idF_valid _) (by omega) (by omega) h1, ho.2⟩ h2
    refine ⟨⟨rfl, rfl, rfl, by omega, by omega⟩, ⟨rfl, rfl, rfl, by omega, by omega⟩, ⟨rfl, rfl, rfl, ⟨by omega, by omega⟩, by omega, by omega⟩, by simp only [inR]; omega, ⟨rfl, rfl, rfl, ⟨by omega, by omega⟩, by omega, by omega⟩, by simp only [inR]; omega, ⟨by omega, rfl, by omega⟩, ⟨rfl, rfl, rfl, ⟨by omega, by omega⟩, by omega, by omega⟩, ⟨by omega, by omega⟩, ⟨by omega, rfl⟩, ?_⟩
    generalize 1 + List.getD [(0 : Int), 0, 0, 1, 2, 3, 4] (nextV n v (a + 1 + 1 + 1 + 1) 7).toNat 0 = st at *
    refine ⟨by simp only [inR]; omega, condP_ndec (fun s3 => condP_ndec (fun s4 => ⟨⟨rfl, rfl, rfl, ⟨by omega, by omega⟩, by omega, by omega⟩, by simp only [inR]; omega, by simp only [inR]; omega, condP_dec (fun s5 => ⟨⟨rfl, rfl, rfl, by omega, by omega⟩, condP_dec (fun q => ⟨trivial, condP_dec (fun q' => absurd q' (idF4i r2)) (fun q' => ⟨⟨trivial, trivial⟩, ?_⟩)⟩) (fun q => ⟨⟨trivial, trivial⟩, ?_⟩)⟩) (fun s5 => ⟨⟨trivial, trivial⟩, ?_⟩)⟩)
      (fun s4 => condP_dec (fun s5 => absurd s5 (by omega)) (fun s5 => ⟨⟨trivial, trivial⟩, ?_⟩))) (fun s3 => condP_dec (fun s5 => absurd s5 (by omega)) (fun s5 => ⟨⟨trivial, trivial⟩, ?_⟩))⟩
    · exact key st _ (idF 4) _ (.inr (.inr ⟨s5, by omega, idF_valid _, idF4i r2⟩)) (by omega)
    · exact key st _ _ _ (.inr (.inr ⟨s5, by omega, idF_valid _, q⟩)) (by omega)
    · exact key st _ _ _ (.inl ⟨by omega, by omega, rfl⟩) (by omega)
    · exact key st _ _ _ (.inr (.inl ⟨by omega, rfl, rfl⟩)) (by omega)
    · exact key st _ _ _ (.inr (.inl ⟨by omega, rfl, rfl⟩)) (by omega)
  · exact h.elim
theorem mmsg_ok (hP : C.P = Tryz.prog) : RSpecOK C 46 R_mmsg := by
  rintro args objs R h
  unfold R_mmsg at h
  split at h
  · rename_i sz n f a t
    obtain ⟨rfl, rfl, hf, ha, hR⟩ := h
    rw [hf] at hR ⊢
    generalize vInt f = v at *
    have hw : vInt (intRow v) = v := rfl
    refine RSpecOK.wpL (prg hP) [(27, .det S_next), (47, .det S_outlet), (48, .det S_product), (44, .det S_device), (45, .rel R_visit)] [] 0 (.cons (next_ok hP) (.cons (outlet_ok hP) (.cons (tproduct_ok hP) (.cons (device_ok hP) (.cons (mvisit_ok hP) .nil))))) (hP ▸ Tryz.func46) rfl rfl rfl [] (by kernel_rfl) trivial ?_
    rw [nf_mmsg, hw]
    have r1 := nextV_range (show (1 : Int) ≤ 3 by omega) n v a
    have r2 := nextV_range (show (1 : Int) ≤ 9 by omega) n v (a + 1)
    have r4 := nextV_range (show (1 : Int) ≤ 3 by omega) n v (a + 1 + 1 + 1)
    have r6 := nextV_range (show (1 : Int) ≤ 4 by omega) n v (a + 1 + 1 + 1 + 1 + 1)
    have r7 := nextV_range (show (1 : Int) ≤ 3 by omega) n v (a + 1 + 1 + 1 + 1 + 1 + 1)
    have r8 := nextV_range (show (1 : Int) ≤ 9 by omega) n v (a + 1 + 1 + 1 + 1 + 1 + 1 + 1)
    have hd := devF_ok (nextV n v a 3).toNat (by omega)
    have ho := outF_ok (nextV n v (a + 1 + 1 + 1) 3).toNat (by omega)
    have hd' := devF_ok (nextV n v (a + 1 + 1 + 1 + 1 + 1 + 1) 3).toNat (by omega)
    refine ⟨⟨rfl, rfl, rfl, by omega, by omega⟩, ⟨rfl, rfl, rfl, ⟨by omega, by omega⟩, by omega, by omega⟩, by simp only [inR]; omega, ⟨rfl, rfl, rfl, ⟨by omega, by omega⟩, by omega, by omega⟩, condP_dec (fun q => ⟨⟨rfl, rfl, rfl, by omega, by omega⟩, ⟨rfl, rfl, rfl, by omega, by omega⟩, ⟨rfl, rfl, rfl, ⟨by omega, by omega⟩, by omega, by omega⟩, by simp only [inR]; omega, ⟨rfl, rfl, rfl, by omega, by omega⟩, ⟨rfl, rfl, rfl, ⟨by omega, by omega⟩, by omega, by omega⟩, by simp only [inR]; omega, ⟨trivial, trivial⟩, ?_⟩)
      (fun q => ⟨rfl, rfl, rfl, ⟨by omega, by omega⟩, fun x a' hx ha' => ⟨⟨trivial, trivial⟩, ?_⟩⟩)⟩
    · exact hR ⟨devF (nextV n v a 3), 1 + nextV n v (a + 1) 9, 2, ⟨[], [], 0, 0, 0, 0, []⟩, ⟨outF (nextV n v (a + 1 + 1 + 1) 3), idF (nextV n v (a + 1 + 1 + 1 + 1) 4), 1440 + nextV n v (a + 1 + 1 + 1 + 1 + 1) 4, devF (nextV n v (a + 1 + 1 + 1 + 1 + 1 + 1) 3), 1 + nextV n v (a + 1 + 1 + 1 + 1 + 1 + 1 + 1) 9⟩⟩ _
        ⟨msg_madeD hd.1 (by omega) (slot_made ho.1 (idF_valid _) (by omega)) hd'.1 (by omega), hd.2, Nat.zero_le _, ho.2, hd'.2⟩ (by omega)
    · exact hR ⟨devF (nextV n v a 3), 1 + nextV n v (a + 1) 9, 1, x, ⟨[], [], 0, [], 0⟩⟩ a' ⟨msg_madeV hd.1 (by omega) hx.ok, hd.2, hx.o, Nat.zero_le _, Nat.zero_le _⟩ (by omega)
  · exact h.elim
end Go.Eng
namespace Go.Eng
open Go.Proofs Go.RowKit
variable {C : Ctx} [C.Loose]
set_option maxRecDepth 20000
theorem nf_rs1 (m : MG) (x : VT) (R : AV → List (Nat × AObj) → Prop) : wpFn te [] [] 0 Tryz.f80 [.agg [.str m.dev, .int .i64 m.seq, .int .i64 m.kind, .str m.v.o, .str m.v.p, .int .i64 m.v.per, .int .i64 m.v.day, .int .i64 m.v.st, .int .i64 m.v.pr, .str m.v.rep, .str m.d.o, .str m.d.p, .int .i64 m.d.per, .str m.d.dev, .int .i64 m.d.num], .ptr 0 0] [.cells [.str x.o, .str x.p, .int .i64 x.per, .int .i64 x.day, .int .i64 x.st, .int .i64 x.pr, .str x.rep] 52] R = (letI z0 := ([(0, .cells [.str (VT.o x), .str (VT.p x), .int .i64 (VT.per x), .int .i64 (VT.day x), .int .i64 (VT.st x), .int .i64 (VT.pr x), .str (VT.rep x)] 52)] : List (Nat × AObj)); condP (!decide (VT.st (MG.v m) = VT.st x)) (R (.bool true) z0) (condP (!decide (VT.pr (MG.v m) = VT.pr x)) (R (.bool true) z0) (R (.bool !decide (VT.rep (MG.v m) = VT.rep x)) z0))) := by kernel_rfl
theorem nf_rs2 (m : MG) (x : DT) (R : AV → List (Nat × AObj) → Prop) : wpFn te [(83, .det S_mark)] [] 0 Tryz.f82 [.agg [.str m.dev, .int .i64 m.seq, .int .i64 m.kind, .str m.v.o, .str m.v.p, .int .i64 m.v.per, .int .i64 m.v.day, .int .i64 m.v.st, .int .i64 m.v.pr, .str m.v.rep, .str m.d.o, .str m.d.p, .int .i64 m.d.per, .str m.d.dev, .int .i64 m.d.num], .ptr 0 0] [.cells [.str x.o, .str x.p, .int .i64 x.per, .str x.dev, .int .i64 x.num] 54] R = (True ∧ R (.bool (decide (MG.dev m = DT.dev x) && decide (MG.seq m = DT.num x))) [(0, .cells [.str (DT.o x), .str (DT.p x), .int .i64 (DT.per x), .str (DT.dev x), .int .i64 (DT.num x)] 54)]) := by kernel_rfl
theorem nf_ixs1 (x : VT) (g : Nat → MG) (n : Nat) (R : AV → List (Nat × AObj) → Prop) : wpFn te [(80, .det S_rs1)] [(2, L_ixs1 x g n)] 0 Tryz.f81 [.view 15 n (mgRow g), .func 80 [.ptr 0 0]] [.cells [.str x.o, .str x.p, .int .i64 x.per, .int .i64 x.day, .int .i64 x.st, .int .i64 x.pr, .str x.rep] 52] R = (letI z0 := ([(0, .cells [.str (VT.o x), .str (VT.p x), .int .i64 (VT.per x), .int .i64 (VT.day x), .int .i64 (VT.st x), .int .i64 (VT.pr x), .str (VT.rep x)] 52)] : List (Nat × AObj)); some (St.mk [(0, .view 15 n (mgRow g)), (1, .func 80 [.ptr 0 0]), (7, .int .i64 (↑n : Int)), (8, .int .i64 0)] z0 1 []) = some (St.mk [(0, .view 15 n (mgRow g)), (1, .func 80 [.ptr 0 0]), (7, .int .i64 (↑n : Int)), (8, .int .i64 (↑0 : Int))] z0 1 []) ∧ n ≤ 1000000 ∧ condP (decide (fstB (fun (i : Nat) => difF x (g i)) n < n)) (R (.int .i64 (↑(fstB (fun (i : Nat) => difF x (g i)) n) : Int)) z0) (R (.int .i64 (-1 : Int)) z0)) := by kernel_rfl
theorem nf_ixs1_round (x : VT) (g : Nat → MG) (n k : Nat) (P : Nat → Prop) (R : Exit → St → Prop) : roundP ⟨te, [(80, .det S_rs1)], [], 1, 19, 0⟩ (loopB Tryz.f81 2) [0, 1, 7, 8] [] [4] (S_ixs1 x g n) P R (S_ixs1 x g n k) = (letI z1 := (g (Int.toNat (↑k : Int))); letI z0 := ([(0, .cells [.str (VT.o x), .str (VT.p x), .int .i64 (VT.per x), .int .i64 (VT.day x), .int .i64 (VT.st x), .int .i64 (VT.pr x), .str (VT.rep x)] 52)] : List (Nat × AObj)); condP (decide ((↑k : Int) < (↑n : Int))) (((0 : Int) ≤ (↑k : Int) ∧ (↑k : Int) < (↑n : Int) ∧ 15 = 15) ∧ 52 = 52 ∧ condP (difF (VT.mk (VT.o x) (VT.p x) (VT.per x) (VT.day x) (VT.st x) (VT.pr x) (VT.rep x)) (MG.mk (MG.dev z1) (MG.seq z1) (MG.kind z1) (VT.mk (VT.o (MG.v z1)) (VT.p (MG.v z1)) (VT.per (MG.v z1)) (VT.day (MG.v z1)) (VT.st (MG.v z1)) (VT.pr (MG.v z1)) (VT.rep (MG.v z1))) (DT.mk (DT.o (MG.d z1)) (DT.p (MG.d z1)) (DT.per (MG.d z1)) (DT.dev (MG.d z1)) (DT.num (MG.d z1))))) (R .ret (St.mk [(4, .int .i64 (↑k : Int))] z0 1 [])) (inR .i64 ((↑k : Int) + (1 : Int)) ∧ ∃ (i' : Nat), some (St.mk [(0, .view 15 n (mgRow g)), (1, .func 80 [.ptr 0 0]), (7, .int .i64 (↑n : Int)), (8, .int .i64 ((↑k : Int) + (1 : Int)))] z0 1 []) = some (St.mk [(0, .view 15 n (mgRow g)), (1, .func 80 [.ptr 0 0]), (7, .int .i64 (↑n : Int)), (8, .int .i64 (↑i' : Int))] z0 1 []) ∧ P i')) (R (.exit 0) (St.mk [] z0 1 []))) := by kernel_rfl
theorem nf_ixs2 (x : DT) (g : Nat → MG) (n : Nat) (R : AV → List (Nat × AObj) → Prop) : wpFn te [(82, .det S_rs2)] [(2, L_ixs2 x g n)] 0 Tryz.f81 [.view 15 n (mgRow g), .func 82 [.ptr 0 0]] [.cells [.str x.o, .str x.p, .int .i64 x.per, .str x.dev, .int .i64 x.num] 54] R = (letI z0 := ([(0, .cells [.str (DT.o x), .str (DT.p x), .int .i64 (DT.per x), .str (DT.dev x), .int .i64 (DT.num x)] 54)] : List (Nat × AObj)); some (St.mk [(0, .view 15 n (mgRow g)), (1, .func 82 [.ptr 0 0]), (7, .int .i64 (↑n : Int)), (8, .int .i64 0)] z0 1 []) = some (St.mk [(0, .view 15 n (mgRow g)), (1, .func 82 [.ptr 0 0]), (7, .int .i64 (↑n : Int)), (8, .int .i64 (↑0 : Int))] z0 1 []) ∧ n ≤ 1000000 ∧ condP (decide (fstB (fun (i : Nat) => namF x (g i)) n < n)) (R (.int .i64 (↑(fstB (fun (i : Nat) => namF x (g i)) n) : Int)) z0) (R (.int .i64 (-1 : Int)) z0)) := by kernel_rfl
theorem nf_ixs2_round (x : DT) (g : Nat → MG) (n k : Nat) (P : Nat → Prop) (R : Exit → St → Prop) : roundP ⟨te, [(82, .det S_rs2)], [], 1, 19, 0⟩ (loopB Tryz.f81 2) [0, 1, 7, 8] [] [4] (S_ixs2 x g n) P R (S_ixs2 x g n k) = (letI z1 := ([(0, .cells [.str (DT.o x), .str (DT.p x), .int .i64 (DT.per x), .str (DT.dev x), .int .i64 (DT.num x)] 54)] : List (Nat × AObj)); letI z0 := (g (Int.toNat (↑k : Int))); condP (decide ((↑k : Int) < (↑n : Int))) (((0 : Int) ≤ (↑k : Int) ∧ (↑k : Int) < (↑n : Int) ∧ 15 = 15) ∧ 54 = 54 ∧ condP (namF (DT.mk (DT.o x) (DT.p x) (DT.per x) (DT.dev x) (DT.num x)) (MG.mk (MG.dev z0) (MG.seq z0) (MG.kind z0) (VT.mk (VT.o (MG.v z0)) (VT.p (MG.v z0)) (VT.per (MG.v z0)) (VT.day (MG.v z0)) (VT.st (MG.v z0)) (VT.pr (MG.v z0)) (VT.rep (MG.v z0))) (DT.mk (DT.o (MG.d z0)) (DT.p (MG.d z0)) (DT.per (MG.d z0)) (DT.dev (MG.d z0)) (DT.num (MG.d z0))))) (R .ret (St.mk [(4, .int .i64 (↑k : Int))] z1 1 [])) (inR .i64 ((↑k : Int) + (1 : Int)) ∧ ∃ (i' : Nat), some (St.mk [(0, .view 15 n (mgRow g)), (1, .func 82 [.ptr 0 0]), (7, .int .i64 (↑n : Int)), (8, .int .i64 ((↑k : Int) + (1 : Int)))] z1 1 []) = some (St.mk [(0, .view 15 n (mgRow g)), (1, .func 82 [.ptr 0 0]), (7, .int .i64 (↑n : Int)), (8, .int .i64 (↑i' : Int))] z1 1 []) ∧ P i')) (R (.exit 0) (St.mk [] z1 1 []))) := by kernel_rfl
theorem nf_cf1 (x : VT) (g : Nat → MG) (n : Nat) (R : AV → List (Nat × AObj) → Prop) : wpFn te [(81, .det S_ix1)] [] 0 Tryz.f79 [.view 15 n (mgRow g), .func 80 [.ptr 0 0]] [.cells [.str x.o, .str x.p, .int .i64 x.per, .int .i64 x.day, .int .i64 x.st, .int .i64 x.pr, .str x.rep] 52] R = ((52 = 52 ∧ n ≤ 1000000 ∧ mgRow g = mgRow (mgOf (mgRow g))) ∧ R (.bool (decide ((0 : Int) ≤ ixB (fun (i : Nat) => difF (VT.mk (VT.o x) (VT.p x) (VT.per x) (VT.day x) (VT.st x) (VT.pr x) (VT.rep x)) (mgOf (mgRow g) i)) n))) [(0, .cells [.str (VT.o x), .str (VT.p x), .int .i64 (VT.per x), .int .i64 (VT.day x), .int .i64 (VT.st x), .int .i64 (VT.pr x), .str (VT.rep x)] 52)]) := by kernel_rfl
theorem rs1_ok (hP : C.P = Tryz.prog) : SpecOK C 80 S_rs1 := by
  have _ : C.Loose := inferInstance
  rintro args objs U Os vc h hvc
  unfold S_rs1 at h
  split at h <;> simp only [Option.some.injEq, Prod.mk.injEq, reduceCtorEq] at h
  rename_i dev seq kind o p per day st pr rep o' p' per' dev' num xo xp xper xday xst xpr xrep t
  obtain ⟨rfl, rfl, rfl⟩ := h
  have hvc : t = _ := hvc
  subst hvc
  have hn := nf_rs1 ⟨dev, seq, kind, ⟨o, p, per, day, st, pr, rep⟩, ⟨o', p', per', dev', num⟩⟩ ⟨xo, xp, xper, xday, xst, xpr, xrep⟩
  dsimp only at hn
  refine SpecOK.wp0 (prg hP) [] 0 .nil (hP ▸ Tryz.func80) rfl rfl rfl ?_
  rw [hn]
  unfold difF
  exact condP_ndec (fun q => by rw [decide_eq_false q]; exact ⟨rfl, rfl⟩) (fun q1 => condP_ndec (fun q => by rw [decide_eq_true q1, decide_eq_false q]; exact ⟨rfl, rfl⟩) (fun q2 => by rw [decide_eq_true q1, decide_eq_true q2]; exact ⟨rfl, rfl⟩))
theorem ixs1_loop (hP : C.P = Tryz.prog) (x : VT) (g : Nat → MG) (n : Nat) : LoopOK C 1 19 (loopC Tryz.f81 2) (L_ixs1 x g n) := by
  rintro st Q ⟨h0, hn, hQ⟩
  have hR := condP_elim hQ
  refine LoopOK.mk (prg hP) [(80, .det S_rs1)] 0 (.cons (rs1_ok hP) .nil) [0, 1, 7, 8] [] [4] (S_ixs1 x g n) (fun k => k ≤ n ∧ fstB (fun i => difF x (g i)) k = k) (fun k => n - k) 0 ⟨Nat.zero_le _, rfl⟩ h0 (fun k hk => ?_)
  obtain ⟨hkn, hok⟩ := hk
  rw [nf_ixs1_round, Int.toNat_natCast]
  refine condP_dec (fun h1 => ?_) (fun h1 => ?_)
  · refine ⟨⟨by omega, by omega, rfl⟩, rfl, condP_intro (fun h2 => ?_) (fun h2 => ⟨by simp only [inR]; omega, k + 1, rfl, ⟨by omega, fstB_not hok h2⟩, by omega⟩)⟩
    have e := fstB_at hok h2 n (by omega)
    have := hR.1 (by rw [e, decide_eq_true]; omega)
    rw [e] at this
    exact this
  · have : k = n := by omega
    subst this
    exact hR.2 (by rw [hok, decide_eq_false]; omega)
theorem ix1_ok (hP : C.P = Tryz.prog) : SpecOK C 81 S_ix1 := by
  rintro args objs U Os vc h hvc
  unfold S_ix1 at h
  split at h <;> simp only [Option.some.injEq, Prod.mk.injEq, reduceCtorEq] at h
  rename_i n f xo xp xper xday xst xpr xrep t
  obtain ⟨rfl, rfl, rfl⟩ := h
  obtain ⟨rfl, hn, hf⟩ := hvc
  generalize mgOf f = g at *
  subst hf
  have hnf := fun R => nf_ixs1 ⟨xo, xp, xper, xday, xst, xpr, xrep⟩ g n R
  dsimp only at hnf
  refine SpecOK.wpL (prg hP) [(80, .det S_rs1)] [(2, L_ixs1 ⟨xo, xp, xper, xday, xst, xpr, xrep⟩ g n)] 0 (.cons (rs1_ok hP) .nil) (hP ▸ Tryz.func81) rfl rfl rfl [(loopC Tryz.f81 2, L_ixs1 ⟨xo, xp, xper, xday, xst, xpr, xrep⟩ g n)] (by kernel_rfl) ⟨ixs1_loop hP _ g n, trivial⟩ ?_
  rw [hnf]
  unfold ixB
  refine ⟨rfl, hn, condP_dec (fun h => ?_) (fun h => ?_)⟩
  · rw [decide_eq_true h]; exact ⟨rfl, rfl⟩
  · rw [decide_eq_false h]; exact ⟨rfl, rfl⟩
theorem rs2_ok (hP : C.P = Tryz.prog) : SpecOK C 82 S_rs2 := by
  rintro args objs U Os vc h hvc
  unfold S_rs2 at h
  split at h <;> simp only [Option.some.injEq, Prod.mk.injEq, reduceCtorEq] at h
  rename_i dev seq kind o p per day st pr rep o' p' per' dev' num xo xp xper xdev xnum t
  obtain ⟨rfl, rfl, rfl⟩ := h
  have hvc : t = _ := hvc
  subst hvc
  have hn := nf_rs2 ⟨dev, seq, kind, ⟨o, p, per, day, st, pr, rep⟩, ⟨o', p', per', dev', num⟩⟩ ⟨xo, xp, xper, xdev, xnum⟩
  dsimp only at hn
  refine SpecOK.wp0 (prg hP) [(83, .det S_mark)] 0 (.cons (mark_ok hP) .nil) (hP ▸ Tryz.func82) rfl rfl rfl ?_
  rw [hn]
  exact ⟨trivial, rfl, rfl⟩
theorem ixs2_loop (hP : C.P = Tryz.prog) (x : DT) (g : Nat → MG) (n : Nat) : LoopOK C 1 19 (loopC Tryz.f81 2) (L_ixs2 x g n) := by
  rintro st Q ⟨h0, hn, hQ⟩
  have hR := condP_elim hQ
  refine LoopOK.mk (prg hP) [(82, .det S_rs2)] 0 (.cons (rs2_ok hP) .nil) [0, 1, 7, 8] [] [4] (S_ixs2 x g n) (fun k => k ≤ n ∧ fstB (fun i => namF x (g i)) k = k) (fun k => n - k) 0 ⟨Nat.zero_le _, rfl⟩ h0 (fun k hk => ?_)
  obtain ⟨hkn, hok⟩ := hk
  rw [nf_ixs2_round, Int.toNat_natCast]
  refine condP_dec (fun h1 => ?_) (fun h1 => ?_)
  · refine ⟨⟨by omega, by omega, rfl⟩, rfl, condP_intro (fun h2 => ?_) (fun h2 => ⟨by simp only [inR]; omega, k + 1, rfl, ⟨by omega, fstB_not hok h2⟩, by omega⟩)⟩
    have e := fstB_at hok h2 n (by omega)
    have := hR.1 (by rw [e, decide_eq_true]; omega)
    rw [e] at this
    exact this
  · have : k = n := by omega
    subst this
    exact hR.2 (by rw [hok, decide_eq_false]; omega)
theorem ix2_ok (hP : C.P = Tryz.prog) : SpecOK C 81 S_ix2 := by
  rintro args objs U Os vc h hvc
  unfold S_ix2 at h
  split at h <;> simp only [Option.some.injEq, Prod.mk.injEq, reduceCtorEq] at h
  rename_i n f xo xp xper xdev xnum t
  obtain ⟨rfl, rfl, rfl⟩ := h
  obtain ⟨rfl, hn, hf⟩ := hvc
  generalize mgOf f = g at *
  subst hf
  have hnf := fun R => nf_ixs2 ⟨xo, xp, xper, xdev, xnum⟩ g n R
  dsimp only at hnf
  refine SpecOK.wpL (prg hP) [(82, .det S_rs2)] [(2, L_ixs2 ⟨xo, xp, xper, xdev, xnum⟩ g n)] 0 (.cons (rs2_ok hP) .nil) (hP ▸ Tryz.func81) rfl rfl rfl [(loopC Tryz.f81 2, L_ixs2 ⟨xo, xp, xper, xdev, xnum⟩ g n)] (by kernel_rfl) ⟨ixs2_loop hP _ g n, trivial⟩ ?_
  rw [hnf]
  unfold ixB
  refine ⟨rfl, hn, condP_dec (fun h => ?_) (fun h => ?_)⟩
  · rw [decide_eq_true h]; exact ⟨rfl, rfl⟩
  · rw [decide_eq_false h]; exact ⟨rfl, rfl⟩
theorem cf1_ok (hP : C.P = Tryz.prog) : SpecOK C 79 S_cf1 := by
  rintro args objs U Os vc h hvc
  unfold S_cf1 at h
  split at h <;> simp only [Option.some.injEq, Prod.mk.injEq, reduceCtorEq] at h
  rename_i n f xo xp xper xday xst xpr xrep t
  obtain ⟨rfl, rfl, rfl⟩ := h
  obtain ⟨rfl, hn, hf⟩ := hvc
  generalize mgOf f = g at *
  subst hf
  have hnf := fun R => nf_cf1 ⟨xo, xp, xper, xday, xst, xpr, xrep⟩ g n R
  dsimp only at hnf
  refine SpecOK.wp0 (prg hP) [(81, .det S_ix1)] 0 (.cons (ix1_ok hP) .nil) (hP ▸ Tryz.func79) rfl rfl rfl ?_
  rw [hnf]
  exact ⟨⟨rfl, hn, rfl⟩, rfl, rfl⟩
end Go.Eng
namespace Go.Eng
open Go.Proofs Go.RowKit
variable {C : Ctx} [C.Loose]
set_option maxRecDepth 20000
theorem nf_resolve (g : Nat → MG) (n : Nat) (o p : List UInt8) (per : Int) (R : AV → List (Nat × AObj) → Prop) : wpFn te [(77, .det S_right), (78, .det S_cand), (79, .det S_cf1)] [(10, L_rl o p per (canL o p per (atM (rightL g n)) (rightL g n).length) (rightL g n))] 0 Tryz.f41 [.view 15 n (mgRow g), .str o, .str p, .int .i64 per] [] R = (letI z8 := atM (rightL g n); letI z7 := List.length (rightL g n); letI z6 := rightL (mgOf (mgRow g)) n; letI z4 := ([.str [], .str [], .int .i64 0, .int .i64 0, .int .i64 0, .int .i64 0, .str []] : List AV); letI z1 := canL o p per z8 z7; letI z5 := Prod.fst (dcF o p per z1 z8 0); letI z3 := Prod.fst (dcF o p per z1 z8 z7); letI z0 := canL o p per (mgOf (mgRow (atM z6))) (List.length z6); letI z2 := (MG.v (atM z0 (Int.toNat (0 : Int)))); (n ≤ 100000 ∧ mgRow g = mgRow (mgOf (mgRow g)) ∧ ∀ (i : Nat), i < n → MG.Sm (mgOf (mgRow g) i)) ∧ (List.length z6 ≤ 1000000 ∧ mgRow (atM z6) = mgRow (mgOf (mgRow (atM z6)))) ∧ condP (decide ((↑(List.length z0) : Int) = (0 : Int))) ((True ∧ True) ∧ R (.tuple [.agg z4, .int .i64 0]) []) (((0 : Int) ≤ (0 : Int) ∧ (0 : Int) < (↑(List.length z0) : Int) ∧ 15 = 15) ∧ (52 = 52 ∧ List.length z0 ≤ 1000000 ∧ mgRow (atM z0) = mgRow (mgOf (mgRow (atM z0)))) ∧ condP (!decide ((0 : Int) ≤ ixB (fun (i : Nat) => difF (VT.mk (VT.o z2) (VT.p z2) (VT.per z2) (VT.day z2) (VT.st z2) (VT.pr z2) (VT.rep z2)) (mgOf (mgRow (atM z0)) i)) (List.length z0))) ((True ∧ True) ∧ R (.tuple [.agg [.str (VT.o z2), .str (VT.p z2), .int .i64 (VT.per z2), .int .i64 (VT.day z2), .int .i64 (VT.st z2), .int .i64 (VT.pr z2), .str (VT.rep z2)], .int .i64 1]) []) (some (St.mk [(1, .str o), (2, .str p), (3, .int .i64 per), (8, .ptr 0 0), (11, .view 15 (List.length z0) (mgRow (atM z0))), (13, .ptr 1 0), (14, .int .i64 (-1 : Int)), (40, .view 15 (List.length z6) (mgRow (atM z6))), (41, .int .i64 (↑(List.length z6) : Int)), (42, .int .i64 0)] [(0, .cells z4 52), (1, .cells z4 52)] 2 []) = some (St.mk [(1, .str o), (2, .str p), (3, .int .i64 per), (8, .ptr 0 0), (11, .view 15 (List.length z1) (mgRow (atM z1))), (13, .ptr 1 0), (14, .int .i64 (Prod.snd (dcF o p per z1 z8 0))), (40, .view 15 z7 (mgRow z8)), (41, .int .i64 (↑z7 : Int)), (42, .int .i64 (↑0 : Int))] [(0, .cells z4 52), (1, .cells [.str (VT.o z5), .str (VT.p z5), .int .i64 (VT.per z5), .int .i64 (VT.day z5), .int .i64 (VT.st z5), .int .i64 (VT.pr z5), .str (VT.rep z5)] 52)] 2 []) ∧ List.length (rightL g n) ≤ 1000000 ∧ List.length z1 ≤ 1000000 ∧ condP (decide (Prod.snd (dcF o p per z1 z8 z7) < (0 : Int))) ((True ∧ True) ∧ R (.tuple [.agg z4, .int .i64 2]) []) ((True ∧ True) ∧ R (.tuple [.agg [.str (VT.o z3), .str (VT.p z3), .int .i64 (VT.per z3), .int .i64 (VT.day z3), .int .i64 (VT.st z3), .int .i64 (VT.pr z3), .str (VT.rep z3)], .int .i64 1]) [])))) := by kernel_rfl
theorem nf_rl_round (o p : List UInt8) (per : Int) (C R : List MG) (k : Nat) (P : Nat → Prop) (Q : Exit → St → Prop) : roundP ⟨te, [(81, .det S_ix2)], [], 0, 92, 0⟩ (loopB Tryz.f41 10) [1, 2, 3, 8, 11, 13, 14, 40, 41, 42] [8, 13, 14] [] (S_rl o p per C R) P Q (S_rl o p per C R k) = (letI z7 := (↑(List.length R) : Int); letI z6 := dcF o p per C (atM R) k; letI z5 := ([.str [], .str [], .int .i64 0, .int .i64 0, .int .i64 0, .int .i64 0, .str []] : List AV); letI z4 := (atM R (Int.toNat (↑k : Int))); letI z3 := ([(0, .cells z5 52), (1, .cells [.str (VT.o (Prod.fst z6)), .str (VT.p (Prod.fst z6)), .int .i64 (VT.per (Prod.fst z6)), .int .i64 (VT.day (Prod.fst z6)), .int .i64 (VT.st (Prod.fst z6)), .int .i64 (VT.pr (Prod.fst z6)), .str (VT.rep (Prod.fst z6))] 52)] : List (Nat × AObj)); letI z1 := (DT.mk (DT.o (MG.d z4)) (DT.p (MG.d z4)) (DT.per (MG.d z4)) (DT.dev (MG.d z4)) (DT.num (MG.d z4))); letI z2 := (MG.v (atM C (Int.toNat (ixB (fun (i : Nat) => namF z1 (mgOf (mgRow (atM C)) i)) (List.length C))))); letI z0 := (inR .i64 ((↑k : Int) + (1 : Int)) ∧ ∃ (i' : Nat), some (St.mk [(1, .str o), (2, .str p), (3, .int .i64 per), (8, .ptr 0 0), (11, .view 15 (List.length C) (mgRow (atM C))), (13, .ptr 1 0), (14, .int .i64 (Prod.snd z6)), (40, .view 15 (List.length R) (mgRow (atM R))), (41, .int .i64 z7), (42, .int .i64 ((↑k : Int) + (1 : Int)))] z3 2 []) = some (St.mk [(1, .str o), (2, .str p), (3, .int .i64 per), (8, .ptr 0 0), (11, .view 15 (List.length C) (mgRow (atM C))), (13, .ptr 1 0), (14, .int .i64 (Prod.snd (dcF o p per C (atM R) i'))), (40, .view 15 (List.length R) (mgRow (atM R))), (41, .int .i64 z7), (42, .int .i64 (↑i' : Int))] [(0, .cells z5 52), (1, .cells [.str (VT.o (Prod.fst (dcF o p per C (atM R) i'))), .str (VT.p (Prod.fst (dcF o p per C (atM R) i'))), .int .i64 (VT.per (Prod.fst (dcF o p per C (atM R) i'))), .int .i64 (VT.day (Prod.fst (dcF o p per C (atM R) i'))), .int .i64 (VT.st (Prod.fst (dcF o p per C (atM R) i'))), .int .i64 (VT.pr (Prod.fst (dcF o p per C (atM R) i'))), .str (VT.rep (Prod.fst (dcF o p per C (atM R) i')))] 52)] 2 []) ∧ P i'); condP (decide ((↑k : Int) < z7)) (((0 : Int) ≤ (↑k : Int) ∧ (↑k : Int) < z7 ∧ 15 = 15) ∧ condP (!decide (MG.kind z4 = (2 : Int))) z0 (condP (!decide (DT.o (MG.d z4) = o)) z0 (condP (!decide (DT.p (MG.d z4) = p)) z0 (condP (!decide (DT.per (MG.d z4) = per)) z0 (condP (decide (MG.seq z4 < Prod.snd z6)) z0 ((54 = 54 ∧ List.length C ≤ 1000000 ∧ mgRow (atM C) = mgRow (mgOf (mgRow (atM C)))) ∧ condP (decide ((0 : Int) ≤ ixB (fun (i : Nat) => namF z1 (mgOf (mgRow (atM C)) i)) (List.length C))) (((0 : Int) ≤ ixB (fun (i : Nat) => namF z1 (mgOf (mgRow (atM C)) i)) (List.length C) ∧ ixB (fun (i : Nat) => namF z1 (mgOf (mgRow (atM C)) i)) (List.length C) < (↑(List.length C) : Int) ∧ 15 = 15) ∧ inR .i64 ((↑k : Int) + (1 : Int)) ∧ ∃ (i' : Nat), some (St.mk [(1, .str o), (2, .str p), (3, .int .i64 per), (8, .ptr 0 0), (11, .view 15 (List.length C) (mgRow (atM C))), (13, .ptr 1 0), (14, .int .i64 (MG.seq z4)), (40, .view 15 (List.length R) (mgRow (atM R))), (41, .int .i64 z7), (42, .int .i64 ((↑k : Int) + (1 : Int)))] [(0, .cells z5 52), (1, .cells [.str (VT.o z2), .str (VT.p z2), .int .i64 (VT.per z2), .int .i64 (VT.day z2), .int .i64 (VT.st z2), .int .i64 (VT.pr z2), .str (VT.rep z2)] 52)] 2 []) = some (St.mk [(1, .str o), (2, .str p), (3, .int .i64 per), (8, .ptr 0 0), (11, .view 15 (List.length C) (mgRow (atM C))), (13, .ptr 1 0), (14, .int .i64 (Prod.snd (dcF o p per C (atM R) i'))), (40, .view 15 (List.length R) (mgRow (atM R))), (41, .int .i64 z7), (42, .int .i64 (↑i' : Int))] [(0, .cells z5 52), (1, .cells [.str (VT.o (Prod.fst (dcF o p per C (atM R) i'))), .str (VT.p (Prod.fst (dcF o p per C (atM R) i'))), .int .i64 (VT.per (Prod.fst (dcF o p per C (atM R) i'))), .int .i64 (VT.day (Prod.fst (dcF o p per C (atM R) i'))), .int .i64 (VT.st (Prod.fst (dcF o p per C (atM R) i'))), .int .i64 (VT.pr (Prod.fst (dcF o p per C (atM R) i'))), .str (VT.rep (Prod.fst (dcF o p per C (atM R) i')))] 52)] 2 []) ∧ P i') z0)))))) (Q (.exit 0) (St.mk [(8, .ptr 0 0), (13, .ptr 1 0), (14, .int .i64 (Prod.snd z6))] z3 2 []))) := by kernel_rfl
theorem ixB_pos {q : Nat → Bool} {n : Nat} : (0 ≤ ixB q n ↔ fstB q n < n) ∧ (fstB q n < n → ixB q n = (fstB q n : Int)) := by
  unfold ixB
  by_cases h : fstB q n < n
  · rw [decide_eq_true h]
    refine ⟨⟨fun _ => h, fun _ => ?_⟩, fun _ => rfl⟩
    show (0 : Int) ≤ (fstB q n : Int)
    omega
  · rw [decide_eq_false h]
    refine ⟨⟨fun k => ?_, fun k => absurd k h⟩, fun k => absurd k h⟩
    have k : (0 : Int) ≤ -1 := k
    omega
theorem rl_loop (hP : C.P = Tryz.prog) (o p : List UInt8) (per : Int) (L R : List MG) : LoopOK C 0 92 (loopC Tryz.f41 10) (L_rl o p per L R) := by
  rintro st Q ⟨h0, hR, hC, hQ⟩
  refine LoopOK.mk (prg hP) [(81, .det S_ix2)] 0 (.cons (ix2_ok hP) .nil) [1, 2, 3, 8, 11, 13, 14, 40, 41, 42] [8, 13, 14] [] (S_rl o p per L R) (fun k => k ≤ R.length) (fun k => R.length - k) 0 (Nat.zero_le _) h0 (fun k hk => ?_)
  rw [nf_rl_round, Int.toNat_natCast]
  have mk : ∀ r : VT × Int, dcF o p per L (atM R) (k + 1) = r → some (St.mk [(1, .str o), (2, .str p), (3, .int .i64 per), (8, .ptr 0 0), (11, .view 15 L.length (mgRow (atM L))), (13, .ptr 1 0), (14, .int .i64 r.2), (40, .view 15 R.length (mgRow (atM R))), (41, .int .i64 (R.length : Int)), (42, .int .i64 ((k : Int) + 1))] [(0, .cells [.str [], .str [], .int .i64 0, .int .i64 0, .int .i64 0, .int .i64 0, .str []] 52), (1, .cells [.str r.1.o, .str r.1.p, .int .i64 r.1.per, .int .i64 r.1.day, .int .i64 r.1.st, .int .i64 r.1.pr, .str r.1.rep] 52)] 2 []) = some (S_rl o p per L R (k + 1)) := fun r e => by
    unfold S_rl; rw [e]; rfl
  have no : k < R.length → (decOK o p per (dcF o p per L (atM R) k).2 (atM R k) && decide (fstB (fun i => namF (atM R k).d (atM L i)) L.length < L.length)) = false → inR .i64 ((k : Int) + 1) ∧ ∃ i' : Nat, some (St.mk [(1, .str o), (2, .str p), (3, .int .i64 per), (8, .ptr 0 0), (11, .view 15 L.length (mgRow (atM L))), (13, .ptr 1 0), (14, .int .i64 (dcF o p per L (atM R) k).2), (40, .view 15 R.length (mgRow (atM R))), (41, .int .i64 (R.length : Int)), (42, .int .i64 ((k : Int) + 1))] [(0, .cells [.str [], .str [], .int .i64 0, .int .i64 0, .int .i64 0, .int .i64 0, .str []] 52), (1, .cells [.str (dcF o p per L (atM R) k).1.o, .str (dcF o p per L (atM R) k).1.p, .int .i64 (dcF o p per L (atM R) k).1.per, .int .i64 (dcF o p per L (atM R) k).1.day, .int .i64 (dcF o p per L (atM R) k).1.st, .int .i64 (dcF o p per L (atM R) k).1.pr, .str (dcF o p per L (atM R) k).1.rep] 52)] 2 []) = some (S_rl o p per L R i') ∧ (i' ≤ R.length ∧ R.length - i' < R.length - k) := fun hk' h =>
    ⟨by simp only [inR]; omega, k + 1, mk _ (by rw [dcF, h]; rfl), by omega, by omega⟩
  refine condP_dec (fun h1 => ⟨⟨by omega, by omega, rfl⟩, condP_ndec (fun q => no (by omega) (by unfold decOK; rw [decide_eq_false q]; rfl)) (fun q1 => condP_ndec (fun q => no (by omega) (by unfold decOK; rw [decide_eq_true q1, decide_eq_false q]; rfl)) (fun q2 => condP_ndec (fun q => no (by omega) (by unfold decOK; rw [decide_eq_true q1, decide_eq_true q2, decide_eq_false q]; rfl)) (fun q3 => condP_ndec (fun q => no (by omega) (by unfold decOK; rw [decide_eq_true q1, decide_eq_true q2, decide_eq_true q3, decide_eq_false q]; rfl))
    (fun q4 => condP_dec (fun q => no (by omega) (by unfold decOK; rw [decide_eq_true q1, decide_eq_true q2, decide_eq_true q3, decide_eq_true q4, decide_eq_true q]; rfl)) (fun q5 => ⟨⟨rfl, hC, rfl⟩, condP_dec (fun q => ?_) (fun q => ?_)⟩)))))⟩) (fun h1 => ?_)
  · have q : 0 ≤ ixB (fun i => namF (atM R k).d (atM L i)) L.length := q
    obtain ⟨x1, x2⟩ := ixB_pos (q := fun i => namF (atM R k).d (atM L i)) (n := L.length)
    have hlt := x1.1 q
    have hx := x2 hlt
    have hd : dcF o p per L (atM R) (k + 1) = ((atM L (ixB (fun i => namF (atM R k).d (atM L i)) L.length).toNat).v, (atM R k).seq) := by
      rw [dcF, decide_eq_true hlt, hx, Int.toNat_natCast]
      unfold decOK
      rw [decide_eq_true q1, decide_eq_true q2, decide_eq_true q3, decide_eq_true q4, decide_eq_false q5]; rfl
    refine ⟨⟨q, ?_, rfl⟩, by simp only [inR]; omega, k + 1, mk _ hd, by omega, by omega⟩
    show ixB (fun i => namF (atM R k).d (atM L i)) L.length < _
    omega
  · have q : ¬ 0 ≤ ixB (fun i => namF (atM R k).d (atM L i)) L.length := q
    obtain ⟨x1, _⟩ := ixB_pos (q := fun i => namF (atM R k).d (atM L i)) (n := L.length)
    exact no (by omega) (by rw [decide_eq_false (fun h => q (x1.2 h)), Bool.and_false])
  · have : k = R.length := by omega
    subst this
    exact hQ
theorem resolve_ok (hP : C.P = Tryz.prog) (hL : ∀ w, C.laid w → LaidW w) : SpecOK C 41 S_resolve := by
  rintro args objs U Os vc h hvc
  unfold S_resolve at h
  split at h <;> simp only [Option.some.injEq, Prod.mk.injEq, reduceCtorEq] at h
  rename_i n f o p per
  obtain ⟨rfl, rfl, rfl⟩ := h
  obtain ⟨hn, hf, hs⟩ := hvc
  generalize mgOf f = g at *
  subst hf
  refine SpecOK.wpL (prg hP) [(77, .det S_right), (78, .det S_cand), (79, .det S_cf1)] [(10, L_rl o p per (canL o p per (atM (rightL g n)) (rightL g n).length) (rightL g n))] 0 (.cons (right_ok hP hL) (.cons (cand_ok hP) (.cons (cf1_ok hP) .nil))) (hP ▸ Tryz.func41) rfl rfl rfl [(loopC Tryz.f41 10, L_rl o p per (canL o p per (atM (rightL g n)) (rightL g n).length) (rightL g n))] (by kernel_rfl) ⟨rl_loop hP o p per _ _, trivial⟩ ?_
  rw [nf_resolve]
  have hg : mgOf (mgRow g) = g := rfl
  have hgR : mgOf (mgRow (atM (rightL g n))) = atM (rightL g n) := rfl
  rw [hg, hgR]
  have hr : (rightL g n).length ≤ n := by
    have := List.length_filter_le (fun x => !decide (1 < numC (atM (mrgL g n noM 0)) (mk2 x) (mrgL g n noM 0).length)) (mrgL g n noM 0)
    have := mrgL_len g n noM 0
    unfold rightL; omega
  unfold resF
  have hc := canL_len o p per (atM (rightL g n)) (rightL g n).length
  generalize canL o p per (atM (rightL g n)) (rightL g n).length = L at *
  generalize rightL g n = R at *
  refine ⟨⟨hn, rfl, hs⟩, ⟨by omega, rfl⟩, condP_dec (fun q => ?_) (fun q => ⟨⟨by omega, by omega, rfl⟩, ⟨rfl, by omega, rfl⟩, condP_ndec (fun q2 => ?_) (fun q2 => ⟨rfl, by omega, by omega, condP_dec (fun q3 => ?_) (fun q3 => ?_)⟩)⟩)⟩
  · have e : resR o p per R L = (zeroVT, 0) := by unfold resR; rw [decide_eq_true (show L.length = 0 by omega)]; rfl
    rw [e]; exact ⟨⟨trivial, trivial⟩, rfl, rfl⟩
  · have q2 : ¬ 0 ≤ ixB (fun i => difF (atM L 0).v (atM L i)) L.length := q2
    have e : resR o p per R L = ((atM L 0).v, 1) := by unfold resR; rw [decide_eq_false (show ¬ L.length = 0 by omega), decide_eq_false q2]; rfl
    rw [e]; exact ⟨⟨trivial, trivial⟩, rfl, rfl⟩
  · have q2 : 0 ≤ ixB (fun i => difF (atM L 0).v (atM L i)) L.length := q2
    have e : resR o p per R L = (zeroVT, 2) := by unfold resR; rw [decide_eq_false (show ¬ L.length = 0 by omega), decide_eq_true q2, decide_eq_true q3]; rfl
    rw [e]; exact ⟨⟨trivial, trivial⟩, rfl, rfl⟩
  · have q2 : 0 ≤ ixB (fun i => difF (atM L 0).v (atM L i)) L.length := q2
    have e : resR o p per R L = ((dcF o p per L (atM R) R.length).1, 1) := by unfold resR; rw [decide_eq_false (show ¬ L.length = 0 by omega), decide_eq_true q2, decide_eq_false q3]; rfl
    rw [e]; exact ⟨⟨trivial, trivial⟩, rfl, rfl⟩
end Go.Eng
