/- Lemmas that the tied card of ScannerValid is proved by. -/
import Derived.Test.YtokpcnppihgdlaaGreatDoorGo
import Derived.Test.YtokpcnppihgdlaaGreatDoorGt
import Derived.Test.YtokpcnppihgdlaaGreatDoorGr
/- The reference's Combine: what it answers. -/
namespace Go.Eng
open Go.Proofs Go.RowKit
variable {C : Ctx} [C.Loose]
set_option maxRecDepth 20000
theorem nf_period (p : Int) (R : AV → List (Nat × AObj) → Prop) : wpFn te [] [] 0 Tryz.f123 [.int .i64 p] [] R = (condP (decide ((0 : Int) ≤ p)) (R (.bool (decide (p ≤ (5999 : Int)))) []) (R (.bool false) [])) := by kernel_rfl
theorem nf_slotR (o p : List UInt8) (per : Int) (R : AV → List (Nat × AObj) → Prop) : wpFn te [(68, .det S_nameR), (99, .det S_validID), (123, .det S_period)] [] 0 Tryz.f93 [.str o, .str p, .int .i64 per] [] R = (List.length o ≤ 9223372036854775806 ∧ condP (nameF o) (True ∧ condP (validIDF p) (True ∧ R (.bool (decide ((0 : Int) ≤ per) && decide (per ≤ (5999 : Int)))) []) (R (.bool false) [])) (R (.bool false) [])) := by kernel_rfl
theorem nf_rowR (o p : List UInt8) (per u tv : Int) (R : AV → List (Nat × AObj) → Prop) : wpFn te [(93, .det S_slotR)] [] 0 Tryz.f59 [.agg [.str o, .str p, .int .i64 per, .int .i64 u, .int .i64 tv]] [] R = (List.length o < 4294967281 ∧ condP (slotF o p per) (condP (decide ((1 : Int) ≤ u)) (condP (decide (u ≤ (1099511627776 : Int))) (condP (decide ((1 : Int) ≤ tv)) (R (.bool (decide (tv ≤ (1099511627776 : Int)))) []) (R (.bool false) [])) (R (.bool false) [])) (R (.bool false) [])) (R (.bool false) [])) := by kernel_rfl
theorem nf_rv (g : Nat → RW) (n : Nat) (R : AV → List (Nat × AObj) → Prop) : wpFn te [(59, .det S_valid)] [(4, L_rv g n)] 0 Tryz.f20 [.view 5 n (rwRow g)] [] R = (condP (decide ((24000 : Int) < (↑n : Int))) (R (.int .i64 130) []) (some (St.mk [(8, .view 5 n (rwRow g)), (9, .int .i64 (↑n : Int)), (10, .int .i64 0)] [] 0 []) = some (St.mk [(8, .view 5 n (rwRow g)), (9, .int .i64 (↑n : Int)), (10, .int .i64 (↑0 : Int))] [] 0 []) ∧ n ≤ 24000 ∧ (∀ (i : Nat), i < n → List.length (RW.o (g i)) < 4294967281) ∧ condP (allRows g n) (R (.int .i64 0) []) (R (.int .i64 131) []))) := by kernel_rfl
theorem nf_rv_round (g : Nat → RW) (n k : Nat) (P : Nat → Prop) (R : Exit → St → Prop) : roundP ⟨te, [(59, .det S_valid)], [], 0, 18, 0⟩ (loopB Tryz.f20 4) [8, 9, 10] [] [2] (S_rv g n) P R (S_rv g n k) = (condP (decide ((↑k : Int) < (↑n : Int))) (((0 : Int) ≤ (↑k : Int) ∧ (↑k : Int) < (↑n : Int) ∧ 5 = 5) ∧ List.length (RW.o (g (Int.toNat (↑k : Int)))) < 4294967281 ∧ condP (!rowF (RW.mk (RW.o (g (Int.toNat (↑k : Int)))) (RW.p (g (Int.toNat (↑k : Int)))) (RW.per (g (Int.toNat (↑k : Int)))) (RW.u (g (Int.toNat (↑k : Int)))) (RW.tv (g (Int.toNat (↑k : Int)))))) (R .ret (St.mk [(2, .int .i64 131)] [] 0 [])) (inR .i64 ((↑k : Int) + (1 : Int)) ∧ ∃ (i' : Nat), some (St.mk [(8, .view 5 n (rwRow g)), (9, .int .i64 (↑n : Int)), (10, .int .i64 ((↑k : Int) + (1 : Int)))] [] 0 []) = some (St.mk [(8, .view 5 n (rwRow g)), (9, .int .i64 (↑n : Int)), (10, .int .i64 (↑i' : Int))] [] 0 []) ∧ P i')) (R (.exit 0) (St.mk [] [] 0 []))) := by kernel_rfl
theorem nf_before (o p : List UInt8) (per u tv : Int) (o' p' : List UInt8) (per' u' tv' : Int) (R : AV → List (Nat × AObj) → Prop) : wpFn te [] [] 0 Tryz.f57 [.agg [.str o, .str p, .int .i64 per, .int .i64 u, .int .i64 tv], .agg [.str o', .str p', .int .i64 per', .int .i64 u', .int .i64 tv']] [] R = (condP (!decide (o = o')) (R (.bool (Op.bytesLess o o')) []) (condP (!decide (p = p')) (R (.bool (Op.bytesLess p p')) []) (R (.bool (decide (per < per'))) []))) := by kernel_rfl
theorem nf_rc (g : Nat → RW) (n : Nat) (R : AV → List (Nat × AObj) → Prop) : wpFn te [(20, .det S_sval)] [(6, L_rc g n)] 0 Tryz.f18 [.view 5 n (rwRow g)] [] R = ((n ≤ 1000000 ∧ rwRow g = rwRow (rwOf (rwRow g)) ∧ ∀ (i : Nat), i < n → List.length (RW.o (rwOf (rwRow g) i)) < 4294967281) ∧ condP (!decide (svF (rwOf (rwRow g)) n = (0 : Int))) (R (.tuple [.nil, .int .i64 (svF (rwOf (rwRow g)) n)]) []) ((TEq [(5, .own 0 0), (15, .view 5 n (rwRow g)), (16, .int .i64 (↑n : Int)), (17, .int .i64 0)] [(5, .own 0 0), (15, .view 5 n (rwRow g)), (16, .int .i64 (↑n : Int)), (17, .int .i64 (↑(RX.k (RX.mk 0 [])) : Int))] ∧ RowsEq [(0, .row 39 5 0 (fun (x : Nat) => []) false)] [(0, .row 39 5 0 (rwRow (atR (RX.L (RX.mk 0 [])))) false)]) ∧ n ≤ 24000 ∧ (∀ (i : Nat), i < n → rowF (g i) = true) ∧ (∀ (i : Nat), i < List.length (srtR (sumsF g n)) → true = true) ∧ ∃ (O' : List (Nat × AObj)), RowsEq [(0, .row 39 5 (List.length (srtR (sumsF g n))) (rwRow (atR (srtR (sumsF g n)))) false)] O' ∧ R (.tuple [.own 0 (List.length (srtR (sumsF g n))), .int .i64 0]) O')) := by kernel_rfl
theorem nf_ri_round (g : Nat → RW) (n : Nat) (i : RX) (a : Nat) (P : Nat → Prop) (R : Exit → St → Prop) : roundP ⟨te, [(57, .det S_before)], [], 0, 87, 0⟩ (loopB Tryz.f18 9) [5, 7, 8, 15, 16, 17] [5, 7, 8, 15, 16, 17] [] (S_ri g n i) P R (S_ri g n i a) = (condP (decide ((↑a : Int) < (↑(List.length (RX.L i)) : Int))) (((0 : Int) ≤ (↑a : Int) ∧ (↑a : Int) < (↑(List.length (RX.L i)) : Int)) ∧ (Int.toNat (↑a : Int) < List.length (RX.L i) ∧ 5 = 5) ∧ True ∧ condP (decide (keyC (RW.mk (RW.o (atR (RX.L i) (Int.toNat (↑a : Int)))) (RW.p (atR (RX.L i) (Int.toNat (↑a : Int)))) (RW.per (atR (RX.L i) (Int.toNat (↑a : Int)))) (RW.u (atR (RX.L i) (Int.toNat (↑a : Int)))) (RW.tv (atR (RX.L i) (Int.toNat (↑a : Int))))) (RW.mk (RW.o (g (RX.k i))) (RW.p (g (RX.k i))) (RW.per (g (RX.k i))) (RW.u (g (RX.k i))) (RW.tv (g (RX.k i)))) < (0 : Int))) (inR .i64 ((↑a : Int) + (1 : Int)) ∧ ∃ (i' : Nat), (TEq [(5, .own 0 (List.length (RX.L i))), (7, .ptr 1 0), (8, .int .i64 ((↑a : Int) + (1 : Int))), (15, .view 5 n (rwRow g)), (16, .int .i64 (↑n : Int)), (17, .int .i64 (↑(RX.k i) : Int))] [(5, .own 0 (List.length (RX.L i))), (7, .ptr 1 0), (8, .int .i64 (↑i' : Int)), (15, .view 5 n (rwRow g)), (16, .int .i64 (↑n : Int)), (17, .int .i64 (↑(RX.k i) : Int))] ∧ RowsEq [(0, .row 39 5 (List.length (RX.L i)) (rwRow (atR (RX.L i))) false), (1, .cells [.str (RW.o (g (RX.k i))), .str (RW.p (g (RX.k i))), .int .i64 (RW.per (g (RX.k i))), .int .i64 (RW.u (g (RX.k i))), .int .i64 (RW.tv (g (RX.k i)))] 39)] [(0, .row 39 5 (List.length (RX.L i)) (rwRow (atR (RX.L i))) false), (1, .cells [.str (RW.o (g (RX.k i))), .str (RW.p (g (RX.k i))), .int .i64 (RW.per (g (RX.k i))), .int .i64 (RW.u (g (RX.k i))), .int .i64 (RW.tv (g (RX.k i)))] 39)]) ∧ P i') ((∀ (i_1 : Nat), i_1 < List.length (RX.L i) → true = true) ∧ ∃ (O' : List (Nat × AObj)), RowsEq [(0, .row 39 5 (List.length (RX.L i)) (rwRow (atR (RX.L i))) false), (1, .cells [.str (RW.o (g (RX.k i))), .str (RW.p (g (RX.k i))), .int .i64 (RW.per (g (RX.k i))), .int .i64 (RW.u (g (RX.k i))), .int .i64 (RW.tv (g (RX.k i)))] 39)] O' ∧ R (.exit 2) (St.mk [(5, .own 0 (List.length (RX.L i))), (7, .ptr 1 0), (8, .int .i64 (↑a : Int)), (15, .view 5 n (rwRow g)), (16, .int .i64 (↑n : Int)), (17, .int .i64 (↑(RX.k i) : Int))] O' 2 []))) ((∀ (i_1 : Nat), i_1 < List.length (RX.L i) → true = true) ∧ ∃ (O' : List (Nat × AObj)), RowsEq [(0, .row 39 5 (List.length (RX.L i)) (rwRow (atR (RX.L i))) false), (1, .cells [.str (RW.o (g (RX.k i))), .str (RW.p (g (RX.k i))), .int .i64 (RW.per (g (RX.k i))), .int .i64 (RW.u (g (RX.k i))), .int .i64 (RW.tv (g (RX.k i)))] 39)] O' ∧ R (.exit 2) (St.mk [(5, .own 0 (List.length (RX.L i))), (7, .ptr 1 0), (8, .int .i64 (↑a : Int)), (15, .view 5 n (rwRow g)), (16, .int .i64 (↑n : Int)), (17, .int .i64 (↑(RX.k i) : Int))] O' 2 []))) := by kernel_rfl
theorem nf_r12 (g : Nat → RW) (n len : Nat) (h : Nat → RW) (x : RW) (k a : Nat) (Q : Exit → St → Prop) : regP ⟨te, [], [], 0, 87, 0⟩ (regC Tryz.f18 12) [5, 7, 8, 15, 16, 17] Q (S_rj g n len h x k a) = (((0 : Int) ≤ (↑a : Int) ∧ (↑a : Int) < (↑len : Int)) ∧ (Int.toNat (↑a : Int) < len ∧ 5 = 5) ∧ inR .i64 (RW.u (h (Int.toNat (↑a : Int))) + RW.u x) ∧ ((0 : Int) ≤ (↑a : Int) ∧ (↑a : Int) < (↑len : Int)) ∧ (List.length [AV.int .i64 (RW.u (h (Int.toNat (↑a : Int))) + RW.u x)] = 1 ∧ Int.toNat (↑a : Int) < len ∧ 5 = 5) ∧ (∀ (i : Nat), i < len → nrefL ((fun (k : Nat) => if k = Int.toNat (↑a : Int) then [.str (RW.o (h (Int.toNat (↑a : Int)))), .str (RW.p (h (Int.toNat (↑a : Int)))), .int .i64 (RW.per (h (Int.toNat (↑a : Int)))), .int .i64 (RW.u (h (Int.toNat (↑a : Int))) + RW.u x), .int .i64 (RW.tv (h (Int.toNat (↑a : Int))))] else rwRow h k) i) = true) ∧ ∃ (O' : List (Nat × AObj)), RowsEq [(0, .row 39 5 len (fun (k : Nat) => if k = Int.toNat (↑a : Int) then [.str (RW.o (h (Int.toNat (↑a : Int)))), .str (RW.p (h (Int.toNat (↑a : Int)))), .int .i64 (RW.per (h (Int.toNat (↑a : Int)))), .int .i64 (RW.u (h (Int.toNat (↑a : Int))) + RW.u x), .int .i64 (RW.tv (h (Int.toNat (↑a : Int))))] else rwRow h k) false), (1, .cells [.str (RW.o x), .str (RW.p x), .int .i64 (RW.per x), .int .i64 (RW.u x), .int .i64 (RW.tv x)] 39)] O' ∧ Q .normal (St.mk [(5, .own 0 len), (7, .ptr 1 0), (8, .int .i64 (↑a : Int)), (15, .view 5 n (rwRow g)), (16, .int .i64 (↑n : Int)), (17, .int .i64 (↑k : Int))] O' 2 [])) := by kernel_rfl
theorem nf_r13 (g : Nat → RW) (n len : Nat) (h : Nat → RW) (x : RW) (k a : Nat) (Q : Exit → St → Prop) : regP ⟨te, [], [], 0, 87, 0⟩ (regC Tryz.f18 13) [5, 7, 8, 15, 16, 17] Q (S_rj g n len h x k a) = (((0 : Int) ≤ (↑a : Int) ∧ (↑a : Int) < (↑len : Int)) ∧ (Int.toNat (↑a : Int) < len ∧ 5 = 5) ∧ inR .i64 (RW.tv (h (Int.toNat (↑a : Int))) + RW.tv x) ∧ ((0 : Int) ≤ (↑a : Int) ∧ (↑a : Int) < (↑len : Int)) ∧ (List.length [AV.int .i64 (RW.tv (h (Int.toNat (↑a : Int))) + RW.tv x)] = 1 ∧ Int.toNat (↑a : Int) < len ∧ 5 = 5) ∧ (∀ (i : Nat), i < len → nrefL ((fun (k : Nat) => if k = Int.toNat (↑a : Int) then [.str (RW.o (h (Int.toNat (↑a : Int)))), .str (RW.p (h (Int.toNat (↑a : Int)))), .int .i64 (RW.per (h (Int.toNat (↑a : Int)))), .int .i64 (RW.u (h (Int.toNat (↑a : Int)))), .int .i64 (RW.tv (h (Int.toNat (↑a : Int))) + RW.tv x)] else rwRow h k) i) = true) ∧ ∃ (O' : List (Nat × AObj)), RowsEq [(0, .row 39 5 len (fun (k : Nat) => if k = Int.toNat (↑a : Int) then [.str (RW.o (h (Int.toNat (↑a : Int)))), .str (RW.p (h (Int.toNat (↑a : Int)))), .int .i64 (RW.per (h (Int.toNat (↑a : Int)))), .int .i64 (RW.u (h (Int.toNat (↑a : Int)))), .int .i64 (RW.tv (h (Int.toNat (↑a : Int))) + RW.tv x)] else rwRow h k) false), (1, .cells [.str (RW.o x), .str (RW.p x), .int .i64 (RW.per x), .int .i64 (RW.u x), .int .i64 (RW.tv x)] 39)] O' ∧ Q .normal (St.mk [(5, .own 0 len), (7, .ptr 1 0), (8, .int .i64 (↑a : Int)), (15, .view 5 n (rwRow g)), (16, .int .i64 (↑n : Int)), (17, .int .i64 (↑k : Int))] O' 2 [])) := by kernel_rfl
theorem nf_rc_round (g : Nat → RW) (n : Nat) (i : RX) (P : RX → Prop) (R : Exit → St → Prop) : roundP ⟨te, [(57, .det S_before)], [(9, L_ri g n i), (1012, L_r12 g n i.L.length (atR i.L) (g i.k) i.k (plc i.L (g i.k))), (1013, L_r13 g n i.L.length (setU (atR i.L) (plc i.L (g i.k)) (g i.k)) (g i.k) i.k (plc i.L (g i.k)))], 0, 87, 0⟩ (loopB Tryz.f18 6) [5, 15, 16, 17] [5] [] (S_rc g n) P R (S_rc g n i) = (condP (decide ((↑(RX.k i) : Int) < (↑n : Int))) (((0 : Int) ≤ (↑(RX.k i) : Int) ∧ (↑(RX.k i) : Int) < (↑n : Int) ∧ 5 = 5) ∧ (TEq [(5, .own 0 (List.length (RX.L i))), (7, .ptr 1 0), (8, .int .i64 0), (15, .view 5 n (rwRow g)), (16, .int .i64 (↑n : Int)), (17, .int .i64 (↑(RX.k i) : Int))] [(5, .own 0 (List.length (RX.L i))), (7, .ptr 1 0), (8, .int .i64 (↑0 : Int)), (15, .view 5 n (rwRow g)), (16, .int .i64 (↑n : Int)), (17, .int .i64 (↑(RX.k i) : Int))] ∧ RowsEq [(0, .row 39 5 (List.length (RX.L i)) (rwRow (atR (RX.L i))) false), (1, .cells [.str (RW.o (g (Int.toNat (↑(RX.k i) : Int)))), .str (RW.p (g (Int.toNat (↑(RX.k i) : Int)))), .int .i64 (RW.per (g (Int.toNat (↑(RX.k i) : Int)))), .int .i64 (RW.u (g (Int.toNat (↑(RX.k i) : Int)))), .int .i64 (RW.tv (g (Int.toNat (↑(RX.k i) : Int))))] 39)] [(0, .row 39 5 (List.length (RX.L i)) (rwRow (atR (RX.L i))) false), (1, .cells [.str (RW.o (g (RX.k i))), .str (RW.p (g (RX.k i))), .int .i64 (RW.per (g (RX.k i))), .int .i64 (RW.u (g (RX.k i))), .int .i64 (RW.tv (g (RX.k i)))] 39)]) ∧ List.length (RX.L i) ≤ 24000 ∧ condP (decide ((↑(plc (RX.L i) (g (RX.k i))) : Int) < (↑(List.length (RX.L i)) : Int))) (((0 : Int) ≤ (↑(plc (RX.L i) (g (RX.k i))) : Int) ∧ (↑(plc (RX.L i) (g (RX.k i))) : Int) < (↑(List.length (RX.L i)) : Int)) ∧ (Int.toNat (↑(plc (RX.L i) (g (RX.k i))) : Int) < List.length (RX.L i) ∧ 5 = 5) ∧ True ∧ condP (!decide (keyC (RW.mk (RW.o (g (RX.k i))) (RW.p (g (RX.k i))) (RW.per (g (RX.k i))) (RW.u (g (RX.k i))) (RW.tv (g (RX.k i)))) (RW.mk (RW.o (atR (RX.L i) (Int.toNat (↑(plc (RX.L i) (g (RX.k i))) : Int)))) (RW.p (atR (RX.L i) (Int.toNat (↑(plc (RX.L i) (g (RX.k i))) : Int)))) (RW.per (atR (RX.L i) (Int.toNat (↑(plc (RX.L i) (g (RX.k i))) : Int)))) (RW.u (atR (RX.L i) (Int.toNat (↑(plc (RX.L i) (g (RX.k i))) : Int)))) (RW.tv (atR (RX.L i) (Int.toNat (↑(plc (RX.L i) (g (RX.k i))) : Int))))) < (0 : Int))) ((TEq [(5, .own 0 (List.length (RX.L i))), (7, .ptr 1 0), (8, .int .i64 (↑(plc (RX.L i) (g (RX.k i))) : Int)), (15, .view 5 n (rwRow g)), (16, .int .i64 (↑n : Int)), (17, .int .i64 (↑(RX.k i) : Int))] [(5, .own 0 (List.length (RX.L i))), (7, .ptr 1 0), (8, .int .i64 (↑(plc (RX.L i) (g (RX.k i))) : Int)), (15, .view 5 n (rwRow g)), (16, .int .i64 (↑n : Int)), (17, .int .i64 (↑(RX.k i) : Int))] ∧ RowsEq [(0, .row 39 5 (List.length (RX.L i)) (rwRow (atR (RX.L i))) false), (1, .cells [.str (RW.o (g (RX.k i))), .str (RW.p (g (RX.k i))), .int .i64 (RW.per (g (RX.k i))), .int .i64 (RW.u (g (RX.k i))), .int .i64 (RW.tv (g (RX.k i)))] 39)] [(0, .row 39 5 (List.length (RX.L i)) (rwRow (atR (RX.L i))) false), (1, .cells [.str (RW.o (g (RX.k i))), .str (RW.p (g (RX.k i))), .int .i64 (RW.per (g (RX.k i))), .int .i64 (RW.u (g (RX.k i))), .int .i64 (RW.tv (g (RX.k i)))] 39)]) ∧ plc (RX.L i) (g (RX.k i)) < List.length (RX.L i) ∧ inR .i64 (RW.u (atR (RX.L i) (plc (RX.L i) (g (RX.k i)))) + RW.u (g (RX.k i))) ∧ (TEq [(5, .own 0 (List.length (RX.L i))), (7, .ptr 1 0), (8, .int .i64 (↑(plc (RX.L i) (g (RX.k i))) : Int)), (15, .view 5 n (rwRow g)), (16, .int .i64 (↑n : Int)), (17, .int .i64 (↑(RX.k i) : Int))] [(5, .own 0 (List.length (RX.L i))), (7, .ptr 1 0), (8, .int .i64 (↑(plc (RX.L i) (g (RX.k i))) : Int)), (15, .view 5 n (rwRow g)), (16, .int .i64 (↑n : Int)), (17, .int .i64 (↑(RX.k i) : Int))] ∧ RowsEq [(0, .row 39 5 (List.length (RX.L i)) (rwRow (setU (atR (RX.L i)) (plc (RX.L i) (g (RX.k i))) (g (RX.k i)))) false), (1, .cells [.str (RW.o (g (RX.k i))), .str (RW.p (g (RX.k i))), .int .i64 (RW.per (g (RX.k i))), .int .i64 (RW.u (g (RX.k i))), .int .i64 (RW.tv (g (RX.k i)))] 39)] [(0, .row 39 5 (List.length (RX.L i)) (rwRow (setU (atR (RX.L i)) (plc (RX.L i) (g (RX.k i))) (g (RX.k i)))) false), (1, .cells [.str (RW.o (g (RX.k i))), .str (RW.p (g (RX.k i))), .int .i64 (RW.per (g (RX.k i))), .int .i64 (RW.u (g (RX.k i))), .int .i64 (RW.tv (g (RX.k i)))] 39)]) ∧ plc (RX.L i) (g (RX.k i)) < List.length (RX.L i) ∧ inR .i64 (RW.tv (setU (atR (RX.L i)) (plc (RX.L i) (g (RX.k i))) (g (RX.k i)) (plc (RX.L i) (g (RX.k i)))) + RW.tv (g (RX.k i))) ∧ inR .i64 ((↑(RX.k i) : Int) + (1 : Int)) ∧ ∃ (i' : RX), (TEq [(5, .own 0 (List.length (RX.L i))), (15, .view 5 n (rwRow g)), (16, .int .i64 (↑n : Int)), (17, .int .i64 ((↑(RX.k i) : Int) + (1 : Int)))] [(5, .own 0 (List.length (RX.L i'))), (15, .view 5 n (rwRow g)), (16, .int .i64 (↑n : Int)), (17, .int .i64 (↑(RX.k i') : Int))] ∧ RowsEq [(0, .row 39 5 (List.length (RX.L i)) (rwRow (setT (setU (atR (RX.L i)) (plc (RX.L i) (g (RX.k i))) (g (RX.k i))) (plc (RX.L i) (g (RX.k i))) (g (RX.k i)))) false)] [(0, .row 39 5 (List.length (RX.L i')) (rwRow (atR (RX.L i'))) false)]) ∧ P i') ((0 ≤ 16777216 ∧ 5 = 5 ∧ 0 ≤ 9223372036854775807) ∧ ((0 : Int) ≤ (↑(plc (RX.L i) (g (RX.k i))) : Int) ∧ (↑(plc (RX.L i) (g (RX.k i))) : Int) ≤ (↑(List.length (RX.L i)) : Int)) ∧ ((Int.toNat (↑(plc (RX.L i) (g (RX.k i))) : Int) ≤ List.length (RX.L i) ∧ 5 = 5) ∧ 0 ≤ 0 ∧ 5 = 5 ∧ 39 = 39 ∧ 5 = 5 ∧ 0 + Int.toNat (↑(plc (RX.L i) (g (RX.k i))) : Int) ≤ 9223372036854775807 ∧ (0 + Int.toNat (↑(plc (RX.L i) (g (RX.k i))) : Int)) * TI.bytes (TI.mk (TypeDesc.struct #[Field.mk "Outlet" (9 : TypeId) 0 false "" "" 0, Field.mk "Product" (9 : TypeId) 1 false "" "" 16, Field.mk "Period" (3 : TypeId) 2 false "" "" 32, Field.mk "Units" (2 : TypeId) 3 false "" "" 40, Field.mk "Turnover" (2 : TypeId) 4 false "" "" 48]) 5 56 (Value.agg #[Value.string (ByteArray.mk #[]), Value.string (ByteArray.mk #[]), Value.int IntKind.i64 0, Value.int IntKind.i64 0, Value.int IntKind.i64 0]) true) ≤ 140737488355328) ∧ (5 ≤ 16777216 ∧ 5 = 5 ∧ 1 ≤ 9223372036854775807) ∧ ((1 ≤ 1 ∧ 5 = 5) ∧ 0 + Int.toNat (↑(plc (RX.L i) (g (RX.k i))) : Int) ≤ 0 + Int.toNat (↑(plc (RX.L i) (g (RX.k i))) : Int) ∧ 5 = 5 ∧ 39 = 39 ∧ 5 = 5 ∧ 0 + Int.toNat (↑(plc (RX.L i) (g (RX.k i))) : Int) + 1 ≤ 9223372036854775807 ∧ (0 + Int.toNat (↑(plc (RX.L i) (g (RX.k i))) : Int) + 1) * TI.bytes (TI.mk (TypeDesc.struct #[Field.mk "Outlet" (9 : TypeId) 0 false "" "" 0, Field.mk "Product" (9 : TypeId) 1 false "" "" 16, Field.mk "Period" (3 : TypeId) 2 false "" "" 32, Field.mk "Units" (2 : TypeId) 3 false "" "" 40, Field.mk "Turnover" (2 : TypeId) 4 false "" "" 48]) 5 56 (Value.agg #[Value.string (ByteArray.mk #[]), Value.string (ByteArray.mk #[]), Value.int IntKind.i64 0, Value.int IntKind.i64 0, Value.int IntKind.i64 0]) true) ≤ 140737488355328) ∧ ((0 : Int) ≤ (↑(plc (RX.L i) (g (RX.k i))) : Int) ∧ (↑(plc (RX.L i) (g (RX.k i))) : Int) ≤ (↑(List.length (RX.L i)) : Int)) ∧ ((Int.toNat (↑(plc (RX.L i) (g (RX.k i))) : Int) + (List.length (RX.L i) - Int.toNat (↑(plc (RX.L i) (g (RX.k i))) : Int)) ≤ List.length (RX.L i) ∧ 5 = 5 ∧ 5 = 5) ∧ 0 + Int.toNat (↑(plc (RX.L i) (g (RX.k i))) : Int) + 1 ≤ 0 + Int.toNat (↑(plc (RX.L i) (g (RX.k i))) : Int) + 1 ∧ 5 = 5 ∧ 39 = 39 ∧ 5 = 5 ∧ 0 + Int.toNat (↑(plc (RX.L i) (g (RX.k i))) : Int) + 1 + (List.length (RX.L i) - Int.toNat (↑(plc (RX.L i) (g (RX.k i))) : Int)) ≤ 9223372036854775807 ∧ (0 + Int.toNat (↑(plc (RX.L i) (g (RX.k i))) : Int) + 1 + (List.length (RX.L i) - Int.toNat (↑(plc (RX.L i) (g (RX.k i))) : Int))) * TI.bytes (TI.mk (TypeDesc.struct #[Field.mk "Outlet" (9 : TypeId) 0 false "" "" 0, Field.mk "Product" (9 : TypeId) 1 false "" "" 16, Field.mk "Period" (3 : TypeId) 2 false "" "" 32, Field.mk "Units" (2 : TypeId) 3 false "" "" 40, Field.mk "Turnover" (2 : TypeId) 4 false "" "" 48]) 5 56 (Value.agg #[Value.string (ByteArray.mk #[]), Value.string (ByteArray.mk #[]), Value.int IntKind.i64 0, Value.int IntKind.i64 0, Value.int IntKind.i64 0]) true) ≤ 140737488355328) ∧ inR .i64 ((↑(RX.k i) : Int) + (1 : Int)) ∧ ∃ (i' : RX), (TEq [(5, .own 0 (0 + Int.toNat (↑(plc (RX.L i) (g (RX.k i))) : Int) + 1 + (List.length (RX.L i) - Int.toNat (↑(plc (RX.L i) (g (RX.k i))) : Int)))), (15, .view 5 n (rwRow g)), (16, .int .i64 (↑n : Int)), (17, .int .i64 ((↑(RX.k i) : Int) + (1 : Int)))] [(5, .own 0 (List.length (RX.L i'))), (15, .view 5 n (rwRow g)), (16, .int .i64 (↑n : Int)), (17, .int .i64 (↑(RX.k i') : Int))] ∧ RowsEq [(0, .row 39 5 (0 + Int.toNat (↑(plc (RX.L i) (g (RX.k i))) : Int) + 1 + (List.length (RX.L i) - Int.toNat (↑(plc (RX.L i) (g (RX.k i))) : Int))) (apF (0 + Int.toNat (↑(plc (RX.L i) (g (RX.k i))) : Int) + 1) (apF (0 + Int.toNat (↑(plc (RX.L i) (g (RX.k i))) : Int)) (apF 0 (chunkA (TI.sz (TI.mk (TypeDesc.struct #[Field.mk "Outlet" (9 : TypeId) 0 false "" "" 0, Field.mk "Product" (9 : TypeId) 1 false "" "" 16, Field.mk "Period" (3 : TypeId) 2 false "" "" 32, Field.mk "Units" (2 : TypeId) 3 false "" "" 40, Field.mk "Turnover" (2 : TypeId) 4 false "" "" 48]) 5 56 (Value.agg #[Value.string (ByteArray.mk #[]), Value.string (ByteArray.mk #[]), Value.int IntKind.i64 0, Value.int IntKind.i64 0, Value.int IntKind.i64 0]) true)) (List.flatten (List.replicate 0 [.str ([]), .str ([]), .int .i64 0, .int .i64 0, .int .i64 0]))) (rwRow (atR (RX.L i)))) (chunkA (TI.sz (TI.mk (TypeDesc.struct #[Field.mk "Outlet" (9 : TypeId) 0 false "" "" 0, Field.mk "Product" (9 : TypeId) 1 false "" "" 16, Field.mk "Period" (3 : TypeId) 2 false "" "" 32, Field.mk "Units" (2 : TypeId) 3 false "" "" 40, Field.mk "Turnover" (2 : TypeId) 4 false "" "" 48]) 5 56 (Value.agg #[Value.string (ByteArray.mk #[]), Value.string (ByteArray.mk #[]), Value.int IntKind.i64 0, Value.int IntKind.i64 0, Value.int IntKind.i64 0]) true)) (.str (RW.o (g (RX.k i))) :: .str (RW.p (g (RX.k i))) :: .int .i64 (RW.per (g (RX.k i))) :: .int .i64 (RW.u (g (RX.k i))) :: .int .i64 (RW.tv (g (RX.k i))) :: List.append [] (List.flatten (List.replicate (nat_lit 0) [.str ([]), .str ([]), .int .i64 0, .int .i64 0, .int .i64 0]))))) fun (i_1 : Nat) => [.str (RW.o (atR (RX.L i) (Int.toNat (↑(plc (RX.L i) (g (RX.k i))) : Int) + i_1))), .str (RW.p (atR (RX.L i) (Int.toNat (↑(plc (RX.L i) (g (RX.k i))) : Int) + i_1))), .int .i64 (RW.per (atR (RX.L i) (Int.toNat (↑(plc (RX.L i) (g (RX.k i))) : Int) + i_1))), .int .i64 (RW.u (atR (RX.L i) (Int.toNat (↑(plc (RX.L i) (g (RX.k i))) : Int) + i_1))), .int .i64 (RW.tv (atR (RX.L i) (Int.toNat (↑(plc (RX.L i) (g (RX.k i))) : Int) + i_1)))]) false)] [(0, .row 39 5 (List.length (RX.L i')) (rwRow (atR (RX.L i'))) false)]) ∧ P i')) ((0 ≤ 16777216 ∧ 5 = 5 ∧ 0 ≤ 9223372036854775807) ∧ ((0 : Int) ≤ (↑(plc (RX.L i) (g (RX.k i))) : Int) ∧ (↑(plc (RX.L i) (g (RX.k i))) : Int) ≤ (↑(List.length (RX.L i)) : Int)) ∧ ((Int.toNat (↑(plc (RX.L i) (g (RX.k i))) : Int) ≤ List.length (RX.L i) ∧ 5 = 5) ∧ 0 ≤ 0 ∧ 5 = 5 ∧ 39 = 39 ∧ 5 = 5 ∧ 0 + Int.toNat (↑(plc (RX.L i) (g (RX.k i))) : Int) ≤ 9223372036854775807 ∧ (0 + Int.toNat (↑(plc (RX.L i) (g (RX.k i))) : Int)) * TI.bytes (TI.mk (TypeDesc.struct #[Field.mk "Outlet" (9 : TypeId) 0 false "" "" 0, Field.mk "Product" (9 : TypeId) 1 false "" "" 16, Field.mk "Period" (3 : TypeId) 2 false "" "" 32, Field.mk "Units" (2 : TypeId) 3 false "" "" 40, Field.mk "Turnover" (2 : TypeId) 4 false "" "" 48]) 5 56 (Value.agg #[Value.string (ByteArray.mk #[]), Value.string (ByteArray.mk #[]), Value.int IntKind.i64 0, Value.int IntKind.i64 0, Value.int IntKind.i64 0]) true) ≤ 140737488355328) ∧ (5 ≤ 16777216 ∧ 5 = 5 ∧ 1 ≤ 9223372036854775807) ∧ ((1 ≤ 1 ∧ 5 = 5) ∧ 0 + Int.toNat (↑(plc (RX.L i) (g (RX.k i))) : Int) ≤ 0 + Int.toNat (↑(plc (RX.L i) (g (RX.k i))) : Int) ∧ 5 = 5 ∧ 39 = 39 ∧ 5 = 5 ∧ 0 + Int.toNat (↑(plc (RX.L i) (g (RX.k i))) : Int) + 1 ≤ 9223372036854775807 ∧ (0 + Int.toNat (↑(plc (RX.L i) (g (RX.k i))) : Int) + 1) * TI.bytes (TI.mk (TypeDesc.struct #[Field.mk "Outlet" (9 : TypeId) 0 false "" "" 0, Field.mk "Product" (9 : TypeId) 1 false "" "" 16, Field.mk "Period" (3 : TypeId) 2 false "" "" 32, Field.mk "Units" (2 : TypeId) 3 false "" "" 40, Field.mk "Turnover" (2 : TypeId) 4 false "" "" 48]) 5 56 (Value.agg #[Value.string (ByteArray.mk #[]), Value.string (ByteArray.mk #[]), Value.int IntKind.i64 0, Value.int IntKind.i64 0, Value.int IntKind.i64 0]) true) ≤ 140737488355328) ∧ ((0 : Int) ≤ (↑(plc (RX.L i) (g (RX.k i))) : Int) ∧ (↑(plc (RX.L i) (g (RX.k i))) : Int) ≤ (↑(List.length (RX.L i)) : Int)) ∧ ((Int.toNat (↑(plc (RX.L i) (g (RX.k i))) : Int) + (List.length (RX.L i) - Int.toNat (↑(plc (RX.L i) (g (RX.k i))) : Int)) ≤ List.length (RX.L i) ∧ 5 = 5 ∧ 5 = 5) ∧ 0 + Int.toNat (↑(plc (RX.L i) (g (RX.k i))) : Int) + 1 ≤ 0 + Int.toNat (↑(plc (RX.L i) (g (RX.k i))) : Int) + 1 ∧ 5 = 5 ∧ 39 = 39 ∧ 5 = 5 ∧ 0 + Int.toNat (↑(plc (RX.L i) (g (RX.k i))) : Int) + 1 + (List.length (RX.L i) - Int.toNat (↑(plc (RX.L i) (g (RX.k i))) : Int)) ≤ 9223372036854775807 ∧ (0 + Int.toNat (↑(plc (RX.L i) (g (RX.k i))) : Int) + 1 + (List.length (RX.L i) - Int.toNat (↑(plc (RX.L i) (g (RX.k i))) : Int))) * TI.bytes (TI.mk (TypeDesc.struct #[Field.mk "Outlet" (9 : TypeId) 0 false "" "" 0, Field.mk "Product" (9 : TypeId) 1 false "" "" 16, Field.mk "Period" (3 : TypeId) 2 false "" "" 32, Field.mk "Units" (2 : TypeId) 3 false "" "" 40, Field.mk "Turnover" (2 : TypeId) 4 false "" "" 48]) 5 56 (Value.agg #[Value.string (ByteArray.mk #[]), Value.string (ByteArray.mk #[]), Value.int IntKind.i64 0, Value.int IntKind.i64 0, Value.int IntKind.i64 0]) true) ≤ 140737488355328) ∧ inR .i64 ((↑(RX.k i) : Int) + (1 : Int)) ∧ ∃ (i' : RX), (TEq [(5, .own 0 (0 + Int.toNat (↑(plc (RX.L i) (g (RX.k i))) : Int) + 1 + (List.length (RX.L i) - Int.toNat (↑(plc (RX.L i) (g (RX.k i))) : Int)))), (15, .view 5 n (rwRow g)), (16, .int .i64 (↑n : Int)), (17, .int .i64 ((↑(RX.k i) : Int) + (1 : Int)))] [(5, .own 0 (List.length (RX.L i'))), (15, .view 5 n (rwRow g)), (16, .int .i64 (↑n : Int)), (17, .int .i64 (↑(RX.k i') : Int))] ∧ RowsEq [(0, .row 39 5 (0 + Int.toNat (↑(plc (RX.L i) (g (RX.k i))) : Int) + 1 + (List.length (RX.L i) - Int.toNat (↑(plc (RX.L i) (g (RX.k i))) : Int))) (apF (0 + Int.toNat (↑(plc (RX.L i) (g (RX.k i))) : Int) + 1) (apF (0 + Int.toNat (↑(plc (RX.L i) (g (RX.k i))) : Int)) (apF 0 (chunkA (TI.sz (TI.mk (TypeDesc.struct #[Field.mk "Outlet" (9 : TypeId) 0 false "" "" 0, Field.mk "Product" (9 : TypeId) 1 false "" "" 16, Field.mk "Period" (3 : TypeId) 2 false "" "" 32, Field.mk "Units" (2 : TypeId) 3 false "" "" 40, Field.mk "Turnover" (2 : TypeId) 4 false "" "" 48]) 5 56 (Value.agg #[Value.string (ByteArray.mk #[]), Value.string (ByteArray.mk #[]), Value.int IntKind.i64 0, Value.int IntKind.i64 0, Value.int IntKind.i64 0]) true)) (List.flatten (List.replicate 0 [.str ([]), .str ([]), .int .i64 0, .int .i64 0, .int .i64 0]))) (rwRow (atR (RX.L i)))) (chunkA (TI.sz (TI.mk (TypeDesc.struct #[Field.mk "Outlet" (9 : TypeId) 0 false "" "" 0, Field.mk "Product" (9 : TypeId) 1 false "" "" 16, Field.mk "Period" (3 : TypeId) 2 false "" "" 32, Field.mk "Units" (2 : TypeId) 3 false "" "" 40, Field.mk "Turnover" (2 : TypeId) 4 false "" "" 48]) 5 56 (Value.agg #[Value.string (ByteArray.mk #[]), Value.string (ByteArray.mk #[]), Value.int IntKind.i64 0, Value.int IntKind.i64 0, Value.int IntKind.i64 0]) true)) (.str (RW.o (g (RX.k i))) :: .str (RW.p (g (RX.k i))) :: .int .i64 (RW.per (g (RX.k i))) :: .int .i64 (RW.u (g (RX.k i))) :: .int .i64 (RW.tv (g (RX.k i))) :: List.append [] (List.flatten (List.replicate (nat_lit 0) [.str ([]), .str ([]), .int .i64 0, .int .i64 0, .int .i64 0]))))) fun (i_1 : Nat) => [.str (RW.o (atR (RX.L i) (Int.toNat (↑(plc (RX.L i) (g (RX.k i))) : Int) + i_1))), .str (RW.p (atR (RX.L i) (Int.toNat (↑(plc (RX.L i) (g (RX.k i))) : Int) + i_1))), .int .i64 (RW.per (atR (RX.L i) (Int.toNat (↑(plc (RX.L i) (g (RX.k i))) : Int) + i_1))), .int .i64 (RW.u (atR (RX.L i) (Int.toNat (↑(plc (RX.L i) (g (RX.k i))) : Int) + i_1))), .int .i64 (RW.tv (atR (RX.L i) (Int.toNat (↑(plc (RX.L i) (g (RX.k i))) : Int) + i_1)))]) false)] [(0, .row 39 5 (List.length (RX.L i')) (rwRow (atR (RX.L i'))) false)]) ∧ P i')) ((∀ (i_1 : Nat), i_1 < List.length (RX.L i) → true = true) ∧ ∃ (O' : List (Nat × AObj)), RowsEq [(0, .row 39 5 (List.length (RX.L i)) (rwRow (atR (RX.L i))) false)] O' ∧ R (.exit 0) (St.mk [(5, .own 0 (List.length (RX.L i)))] O' 1 []))) := by kernel_rfl
theorem nf_sr (g h : Nat → RW) (n m : Nat) (R : AV → List (Nat × AObj) → Prop) : wpFn te [] [(4, L_sr g h n)] 0 Tryz.f21 [.view 5 n (rwRow g), .view 5 m (rwRow h)] [] R = (condP (!decide ((↑n : Int) = (↑m : Int))) (R (.bool false) []) (some (St.mk [(0, .view 5 n (rwRow g)), (1, .view 5 m (rwRow h)), (12, .int .i64 (↑n : Int)), (13, .int .i64 0)] [] 0 []) = some (St.mk [(0, .view 5 n (rwRow g)), (1, .view 5 n (rwRow h)), (12, .int .i64 (↑n : Int)), (13, .int .i64 (↑0 : Int))] [] 0 []) ∧ n ≤ 1000000 ∧ condP (eqRows g h n) (R (.bool true) []) (R (.bool false) []))) := by kernel_rfl
theorem nf_sr_round (g h : Nat → RW) (n k : Nat) (P : Nat → Prop) (R : Exit → St → Prop) : roundP ⟨te, [], [], 0, 26, 0⟩ (loopB Tryz.f21 4) [0, 1, 12, 13] [] [4] (S_sr g h n) P R (S_sr g h n k) = (condP (decide ((↑k : Int) < (↑n : Int))) (((0 : Int) ≤ (↑k : Int) ∧ (↑k : Int) < (↑n : Int) ∧ 5 = 5) ∧ ((0 : Int) ≤ (↑k : Int) ∧ (↑k : Int) < (↑n : Int) ∧ 5 = 5) ∧ condP (!(decide (RW.o (g (Int.toNat (↑k : Int))) = RW.o (h (Int.toNat (↑k : Int)))) && (decide (RW.p (g (Int.toNat (↑k : Int))) = RW.p (h (Int.toNat (↑k : Int)))) && (decide (RW.per (g (Int.toNat (↑k : Int))) = RW.per (h (Int.toNat (↑k : Int)))) && (decide (RW.u (g (Int.toNat (↑k : Int))) = RW.u (h (Int.toNat (↑k : Int)))) && decide (RW.tv (g (Int.toNat (↑k : Int))) = RW.tv (h (Int.toNat (↑k : Int))))))))) (R .ret (St.mk [(4, .bool false)] [] 0 [])) (inR .i64 ((↑k : Int) + (1 : Int)) ∧ ∃ (i' : Nat), some (St.mk [(0, .view 5 n (rwRow g)), (1, .view 5 n (rwRow h)), (12, .int .i64 (↑n : Int)), (13, .int .i64 ((↑k : Int) + (1 : Int)))] [] 0 []) = some (St.mk [(0, .view 5 n (rwRow g)), (1, .view 5 n (rwRow h)), (12, .int .i64 (↑n : Int)), (13, .int .i64 (↑i' : Int))] [] 0 []) ∧ P i')) (R (.exit 0) (St.mk [] [] 0 []))) := by kernel_rfl

theorem period_ok (hP : C.P = Tryz.prog) : SpecOK C 123 S_period := by
  have _ : C.Loose := inferInstance
  rintro args objs U Os vc h hvc
  unfold S_period at h
  split at h <;> simp only [Option.some.injEq, Prod.mk.injEq, reduceCtorEq] at h
  obtain ⟨rfl, rfl, rfl⟩ := h
  refine SpecOK.wp0 (prg hP) [] 0 .nil (hP ▸ Tryz.func123) rfl rfl rfl ?_
  rw [nf_period]
  exact condP_intro (fun h => by rw [h]; exact ⟨rfl, rfl⟩) (fun h => by rw [h]; exact ⟨rfl, rfl⟩)
theorem slotR_ok (hP : C.P = Tryz.prog) : SpecOK C 93 S_slotR := by
  rintro args objs U Os vc h hvc
  unfold S_slotR at h
  split at h <;> simp only [Option.some.injEq, Prod.mk.injEq, reduceCtorEq] at h
  rename_i o p per
  obtain ⟨rfl, rfl, rfl⟩ := h
  refine SpecOK.wp0 (prg hP) [(68, .det S_nameR), (99, .det S_validID), (123, .det S_period)] 0 (.cons (nameR_ok hP) (.cons (validIDR_ok hP) (.cons (period_ok hP) .nil))) (hP ▸ Tryz.func93) rfl rfl rfl ?_
  rw [nf_slotR]
  unfold slotF
  exact ⟨by omega, condP_intro (fun h1 => ⟨trivial, condP_intro (fun h2 => ⟨trivial, by rw [h1, h2, Bool.true_and, Bool.true_and]; exact ⟨rfl, rfl⟩⟩) (fun h2 => by rw [h1, h2]; exact ⟨rfl, rfl⟩)⟩) (fun h1 => by rw [h1]; exact ⟨rfl, rfl⟩)⟩
theorem rowR_ok (hP : C.P = Tryz.prog) : SpecOK C 59 S_valid := by
  rintro args objs U Os vc h hvc
  unfold S_valid at h
  split at h <;> simp only [Option.some.injEq, Prod.mk.injEq, reduceCtorEq] at h
  rename_i o p per u tv
  obtain ⟨rfl, rfl, rfl⟩ := h
  refine SpecOK.wp0 (prg hP) [(93, .det S_slotR)] 0 (.cons (slotR_ok hP) .nil) (hP ▸ Tryz.func59) rfl rfl rfl ?_
  rw [nf_rowR]
  have e : rowF ⟨o, p, per, u, tv⟩ = (slotF o p per && (decide (1 ≤ u) && (decide (u ≤ 1099511627776) && (decide (1 ≤ tv) && decide (tv ≤ 1099511627776))))) := by
    unfold rowF
    dsimp only
    rw [Bool.and_assoc]
    congr 1
    rw [Bool.eq_iff_iff]
    simp only [Bool.and_eq_true, decide_eq_true_eq]
    omega
  rw [e]
  generalize slotF o p per = b1, decide (1 ≤ u) = b2, decide (u ≤ 1099511627776) = b3, decide (1 ≤ tv) = b4, decide (tv ≤ 1099511627776) = b5
  refine ⟨hvc, ?_⟩
  cases b1 <;> cases b2 <;> cases b3 <;> cases b4 <;> exact ⟨rfl, rfl⟩
theorem rv_loop (hP : C.P = Tryz.prog) (g : Nat → RW) (n : Nat) : LoopOK C 0 18 (loopC Tryz.f20 4) (L_rv g n) := by
  rintro st Q ⟨h0, hn, hs, hQ⟩
  have hR := condP_elim hQ
  refine LoopOK.mk (prg hP) [(59, .det S_valid)] 0 (.cons (rowR_ok hP) .nil) [8, 9, 10] [] [2] (S_rv g n) (fun k => k ≤ n ∧ allRows g k = true) (fun k => n - k) 0 ⟨Nat.zero_le _, rfl⟩ h0 (fun k hk => ?_)
  obtain ⟨hkn, hok⟩ := hk
  rw [nf_rv_round, Int.toNat_natCast]
  refine condP_dec (fun h1 => ?_) (fun h1 => ?_)
  · refine ⟨⟨by omega, by omega, rfl⟩, hs k (by omega), condP_not (fun h2 => hR.2 (allRows_stop h2 n (by omega))) (fun h2 => ⟨by simp only [inR]; omega, k + 1, rfl, ⟨by omega, ?_⟩, by omega⟩)⟩
    rw [allRows, hok]; exact h2
  · have : k = n := by omega
    subst this
    exact hR.1 hok
theorem rval_ok (hP : C.P = Tryz.prog) : SpecOK C 20 S_sval := by
  rintro args objs U Os vc h hvc
  unfold S_sval at h
  split at h <;> simp only [Option.some.injEq, Prod.mk.injEq, reduceCtorEq] at h
  rename_i n f
  obtain ⟨rfl, rfl, rfl⟩ := h
  obtain ⟨hn, hf, hs⟩ := hvc
  generalize rwOf f = g at *
  subst hf
  unfold svF
  refine SpecOK.wpL (prg hP) [(59, .det S_valid)] [(4, L_rv g n)] 0 (.cons (rowR_ok hP) .nil) (hP ▸ Tryz.func20) rfl rfl rfl [(loopC Tryz.f20 4, L_rv g n)] (by kernel_rfl) ⟨rv_loop hP g n, trivial⟩ ?_
  rw [nf_rv]
  refine condP_dec (fun h1 => ?_) (fun h1 => ⟨rfl, by omega, hs, condP_intro (fun h2 => ?_) (fun h2 => ?_)⟩)
  · rw [decide_eq_true (show 24000 < n by omega)]; exact ⟨rfl, rfl⟩
  · rw [decide_eq_false (show ¬ 24000 < n by omega), h2]; exact ⟨rfl, rfl⟩
  · rw [decide_eq_false (show ¬ 24000 < n by omega), h2]; exact ⟨rfl, rfl⟩
theorem before_ok (hP : C.P = Tryz.prog) : SpecOK C 57 S_before := by
  have _ : C.Loose := inferInstance
  rintro args objs U Os vc h hvc
  unfold S_before at h
  split at h <;> simp only [Option.some.injEq, Prod.mk.injEq, reduceCtorEq] at h
  rename_i o p per u tv o' p' per' u' tv'
  obtain ⟨rfl, rfl, rfl⟩ := h
  refine SpecOK.wp0 (prg hP) [] 0 .nil (hP ▸ Tryz.func57) rfl rfl rfl ?_
  rw [nf_before]
  have e : keyC ⟨o, p, per, u, tv⟩ ⟨o', p', per', u', tv'⟩ = if cmpS o o' = 0 then (if cmpS p p' = 0 then cmpI per per' else cmpS p p') else cmpS o o' := by
    unfold keyC
    simp only [orL]
    by_cases h1 : cmpS o o' = 0
    · by_cases h2 : cmpS p p' = 0
      · by_cases h3 : cmpI per per' = 0 <;> simp [h1, h2, h3]
      · simp [h1, h2]
    · simp [h1]
  rw [e]
  refine condP_ndec (fun h1 => ?_) (fun h1 => condP_ndec (fun h2 => ?_) (fun h2 => ?_))
  · rw [if_neg (fun q => h1 (cmpS_zero.1 q))]
    refine ⟨?_, rfl⟩
    have := @cmpS_neg o o'
    cases q : Op.bytesLess o o' with
    | true => rw [decide_eq_true (this.2 q)]
    | false => rw [decide_eq_false (fun k => by rw [this.1 k] at q; cases q)]
  · rw [if_pos (cmpS_zero.2 h1), if_neg (fun q => h2 (cmpS_zero.1 q))]
    refine ⟨?_, rfl⟩
    have := @cmpS_neg p p'
    cases q : Op.bytesLess p p' with
    | true => rw [decide_eq_true (this.2 q)]
    | false => rw [decide_eq_false (fun k => by rw [this.1 k] at q; cases q)]
  · rw [if_pos (cmpS_zero.2 h1), if_pos (cmpS_zero.2 h2)]
    refine ⟨?_, rfl⟩
    have := cmpI_val per per'
    by_cases q : per < per'
    · rw [decide_eq_true q, decide_eq_true (show cmpI per per' < 0 by omega)]
    · rw [decide_eq_false q, decide_eq_false (show ¬ cmpI per per' < 0 by omega)]

theorem plc_le : ∀ (L : List RW) (r : RW), plc L r ≤ L.length
  | [], _ => Nat.le_refl _
  | x :: l, r => by
    rw [plc]
    cases decide (keyC x r < 0) with
    | true => have := plc_le l r; simpa using this
    | false => exact Nat.zero_le _
theorem plc_lt : ∀ (L : List RW) (r : RW) (j : Nat), j < plc L r → keyC (atR L j) r < 0
  | [], _, _, h => absurd h (Nat.not_lt_zero _)
  | x :: l, r, j, h => by
    rw [plc] at h
    by_cases q : keyC x r < 0
    · rw [decide_eq_true q] at h
      cases j with
      | zero => exact q
      | succ j => exact plc_lt l r j (Nat.lt_of_succ_lt_succ h)
    · rw [decide_eq_false q] at h; exact absurd h (Nat.not_lt_zero _)
theorem plc_at : ∀ (L : List RW) (r : RW), plc L r < L.length → ¬ keyC (atR L (plc L r)) r < 0
  | [], _, h => absurd h (Nat.not_lt_zero _)
  | x :: l, r, h => by
    rw [plc] at h ⊢
    by_cases q : keyC x r < 0
    · rw [decide_eq_true q] at h ⊢
      exact plc_at l r (Nat.lt_of_succ_lt_succ h)
    · rw [decide_eq_false q]; exact q

theorem ri_loop (hP : C.P = Tryz.prog) (g : Nat → RW) (n : Nat) (i : RX) : LoopOK C 0 87 (loopC Tryz.f18 9) (L_ri g n i) := by
  rintro st Q ⟨h0, hn, hQ⟩
  refine LoopOK.mk (prg hP) [(57, .det S_before)] 0 (.cons (before_ok hP) .nil) [5, 7, 8, 15, 16, 17] [5, 7, 8, 15, 16, 17] [] (S_ri g n i) (fun a => a ≤ plc i.L (g i.k)) (fun a => i.L.length - a) 0 (Nat.zero_le _) h0 (fun a ha => ?_) (fun i => ⟨fun _ _ => rfl, trivial⟩)
  have hle := plc_le i.L (g i.k)
  rw [nf_ri_round, Int.toNat_natCast]
  have stop : ¬ a < plc i.L (g i.k) → Q (.exit 2) (S_rj g n i.L.length (atR i.L) (g i.k) i.k a) := fun h => by
    have : a = plc i.L (g i.k) := by omega
    rw [this]; exact hQ
  refine condP_dec (fun h1 => ⟨⟨by omega, by omega⟩, ⟨by omega, rfl⟩, trivial, condP_dec (fun h2 => ⟨by simp only [inR]; omega, a + 1, ⟨rfl, rowsEqR _⟩, ?_, by omega⟩) (fun h2 => ⟨fun _ _ => rfl, _, rowsEqR _, stop fun q => h2 (plc_lt _ _ a q)⟩)⟩) (fun h1 => ⟨fun _ _ => rfl, _, rowsEqR _, stop (by omega)⟩)
  · by_cases q : a = plc i.L (g i.k)
    · exact absurd h2 (by rw [q]; exact plc_at _ _ (by omega))
    · omega

theorem r12_ok (hP : C.P = Tryz.prog) (g : Nat → RW) (n len : Nat) (h : Nat → RW) (x : RW) (k a : Nat) : LoopOK C 0 87 (regC Tryz.f18 12) (L_r12 g n len h x k a) := by
  have _ : C.Loose := inferInstance
  rintro st Q ⟨h0, ha, hu, hQ⟩
  refine LoopOK.reg (prg hP) [] 0 .nil [5, 7, 8, 15, 16, 17] [5, 7, 8, 15, 16, 17] h0 ?_ ⟨fun _ _ => rfl, trivial⟩
  rw [nf_r12, Int.toNat_natCast]
  refine ⟨⟨by omega, by omega⟩, ⟨ha, rfl⟩, hu, ⟨by omega, by omega⟩, ⟨rfl, ha, rfl⟩, fun i hi => ?_, (S_rj g n len (setU h a x) x k a).O, ⟨⟨rfl, rfl, rfl, rfl, rfl, fun i hi => ?_⟩, rfl, trivial⟩, hQ⟩
  · by_cases e : i = a <;> simp [e, rwRow] <;> rfl
  · unfold rwRow setU
    by_cases e : i = a <;> simp [e]
theorem r13_ok (hP : C.P = Tryz.prog) (g : Nat → RW) (n len : Nat) (h : Nat → RW) (x : RW) (k a : Nat) : LoopOK C 0 87 (regC Tryz.f18 13) (L_r13 g n len h x k a) := by
  have _ : C.Loose := inferInstance
  rintro st Q ⟨h0, ha, hu, hQ⟩
  refine LoopOK.reg (prg hP) [] 0 .nil [5, 7, 8, 15, 16, 17] [5, 7, 8, 15, 16, 17] h0 ?_ ⟨fun _ _ => rfl, trivial⟩
  rw [nf_r13, Int.toNat_natCast]
  refine ⟨⟨by omega, by omega⟩, ⟨ha, rfl⟩, hu, ⟨by omega, by omega⟩, ⟨rfl, ha, rfl⟩, fun i hi => ?_, (S_rj g n len (setT h a x) x k a).O, ⟨⟨rfl, rfl, rfl, rfl, rfl, fun i hi => ?_⟩, rfl, trivial⟩, hQ⟩
  · by_cases e : i = a <;> simp [e, rwRow] <;> rfl
  · unfold rwRow setT
    by_cases e : i = a <;> simp [e]

theorem getK_at : ∀ {L : List RW} {y : RW} {p : Nat}, p < L.length → (∀ j, j < p → sameK (atR L j) y = false) → sameK (atR L p) y = true → getK L y = some (atR L p)
  | [], _, _, h, _, _ => absurd h (Nat.not_lt_zero _)
  | x :: l, y, 0, _, _, h => by
    have h : sameK x y = true := h
    rw [getK, h]; rfl
  | x :: l, y, p + 1, hp, hj, h => by
    have h0 : sameK x y = false := hj 0 (Nat.succ_pos _)
    rw [getK, h0]
    exact getK_at (L := l) (Nat.lt_of_succ_lt_succ hp) (fun j q => hj (j + 1) (Nat.succ_lt_succ q)) h
theorem setK_at : ∀ {L : List RW} {y : RW} {p : Nat}, p < L.length → (∀ j, j < p → sameK (atR L j) y = false) → sameK (atR L p) y = true → setK L y = L.set p y
  | [], _, _, h, _, _ => absurd h (Nat.not_lt_zero _)
  | x :: l, y, 0, _, _, h => by
    have h : sameK x y = true := h
    rw [setK, h]; rfl
  | x :: l, y, p + 1, hp, hj, h => by
    have h0 : sameK x y = false := hj 0 (Nat.succ_pos _)
    rw [setK, h0, List.set_cons_succ, ← setK_at (L := l) (Nat.lt_of_succ_lt_succ hp) (fun j q => hj (j + 1) (Nat.succ_lt_succ q)) h]
    rfl
theorem getK_no : ∀ {L : List RW} {y : RW}, (∀ x ∈ L, sameK x y = false) → getK L y = none ∧ ∀ z : RW, sameK y z = true → setK L z = L ++ [z]
  | [], _, _ => ⟨rfl, fun _ _ => rfl⟩
  | x :: l, y, h => by
    have h0 := h x (List.mem_cons_self ..)
    obtain ⟨i1, i2⟩ := getK_no (L := l) (y := y) fun x' hx => h x' (List.mem_cons_of_mem _ hx)
    refine ⟨by rw [getK, h0]; exact i1, fun z hz => ?_⟩
    have h1 : sameK x z = false := by
      cases q : sameK x z with
      | false => rfl
      | true => rw [sameK_trans q (sameK_symm hz)] at h0; cases h0
    rw [setK, h1, i2 z hz]; rfl
theorem keyC_congr {a a' b b' : RW} (h : sameK a a' = true) (k : sameK b b' = true) : keyC a b = keyC a' b' := by
  obtain ⟨h1, h2, h3⟩ := sameK_iff.1 h
  obtain ⟨k1, k2, k3⟩ := sameK_iff.1 k
  unfold keyC
  rw [h1, h2, h3, k1, k2, k3]
theorem atR_mem {L : List RW} {j : Nat} (h : j < L.length) : atR L j ∈ L := by
  unfold atR
  rw [List.getD_eq_getElem?_getD, List.getElem?_eq_getElem h]
  exact List.getElem_mem h
theorem mem_atR {L : List RW} {x : RW} (h : x ∈ L) : ∃ j, j < L.length ∧ atR L j = x := by
  obtain ⟨j, hj, rfl⟩ := List.mem_iff_getElem.1 h
  exact ⟨j, hj, by simp [atR, hj]⟩
theorem asc_at {L : List RW} (h : Asc keyC L) {i j : Nat} (hij : i < j) (hj : j < L.length) : keyC (atR L i) (atR L j) < 0 := by
  have := List.pairwise_iff_getElem.1 h i j (by omega) hj hij
  have hi : i < L.length := by omega
  simpa [atR, hi, hj] using this
theorem asc_set {L : List RW} (h : Asc keyC L) {p : Nat} {y : RW} (hp : p < L.length) (hs : sameK (atR L p) y = true) : Asc keyC (L.set p y) := by
  refine List.pairwise_iff_getElem.2 fun i j hi hj hij => ?_
  rw [List.length_set] at hi hj
  have hs' : sameK y (L[p]) = true := by
    have := sameK_symm hs
    simpa [atR, hp] using this
  have e : ∀ (k : Nat) (hk : k < L.length), sameK ((L.set p y)[k]'(by rw [List.length_set]; exact hk)) (L[k]) = true := fun k hk => by
    rw [List.getElem_set]
    by_cases q : p = k
    · subst q; rw [if_pos rfl]; exact hs'
    · rw [if_neg q]; exact sameK_self _
  rw [keyC_congr (e i hi) (e j hj)]
  exact List.pairwise_iff_getElem.1 h i j hi hj hij

theorem rc_loop (hP : C.P = Tryz.prog) (g : Nat → RW) (n : Nat) : LoopOK C 0 87 (loopC Tryz.f18 6) (L_rc g n) := by
  rintro st Q ⟨h0, hn, hr, hQ⟩
  refine AWP.ownNil 5 39 5 ?_
  refine LoopOK.mkI (prg hP) [(57, .det S_before)] (fun i : RX => [(9, L_ri g n i), (1012, L_r12 g n i.L.length (atR i.L) (g i.k) i.k (plc i.L (g i.k))), (1013, L_r13 g n i.L.length (setU (atR i.L) (plc i.L (g i.k)) (g i.k)) (g i.k) i.k (plc i.L (g i.k)))]) 0 (.cons (before_ok hP) .nil)
    (fun i => [(loopC Tryz.f18 9, L_ri g n i), (regC Tryz.f18 12, L_r12 g n i.L.length (atR i.L) (g i.k) i.k (plc i.L (g i.k))), (regC Tryz.f18 13, L_r13 g n i.L.length (setU (atR i.L) (plc i.L (g i.k)) (g i.k)) (g i.k) i.k (plc i.L (g i.k)))])
    (fun i => by kernel_rfl) (fun i => ⟨ri_loop hP g n i, r12_ok hP _ _ _ _ _ _ _, r13_ok hP _ _ _ _ _ _ _, trivial⟩) [5, 15, 16, 17] [5] [] (S_rc g n) (fun i => i.k ≤ n ∧ IsSums ((List.range i.k).map g) i.L ∧ Asc keyC i.L ∧ i.L.length ≤ i.k) (fun i => n - i.k) ⟨0, []⟩ ⟨Nat.zero_le _, .nil, .nil, Nat.le_refl _⟩ h0 (fun i hi => ?_) (fun i => ⟨fun _ _ => rfl, trivial⟩)
  obtain ⟨hkn, hs, ha, hlen⟩ := hi
  rw [nf_rc_round, Int.toNat_natCast, Int.toNat_natCast]
  refine condP_dec (fun h1 => ?_) (fun h1 => ?_)
  · have hk : i.k < n := by omega
    generalize hx : g i.k = x at *
    generalize hL : i.L = L at *
    have hpl := plc_le L x
    have hplt := plc_lt L x
    have hpa := plc_at L x
    generalize plc L x = p at *
    have hb := rowF_bounds (hr i.k hk)
    rw [hx] at hb
    have hne : ∀ j, j < p → sameK (atR L j) x = false := fun j hj => by
      cases q : sameK (atR L j) x with
      | false => rfl
      | true => have := hplt j hj; rw [keyC_zero.2 q] at this; omega
    have hgot := hs.got x
    have hall : ∀ r ∈ (List.range i.k).map g, rowF r = true := fun r h => by
      obtain ⟨j, hj, rfl⟩ := List.mem_map.1 h
      exact hr j (by have := List.mem_range.1 hj; omega)
    have b1 := sumU_le (B := 1099511627776) (by omega) x (l := (List.range i.k).map g) fun r h => by have := rowF_bounds (hall r h); omega
    have b2 := sumT_le (B := 1099511627776) (by omega) x (l := (List.range i.k).map g) fun r h => by have := rowF_bounds (hall r h); omega
    rw [List.length_map, List.length_range] at b1 b2
    have hstep := hs.step x
    have hrange : (List.range (i.k + 1)).map g = (List.range i.k).map g ++ [x] := by rw [List.range_succ, List.map_append, ← hx]; rfl
    have ins : (p < L.length → keyC x (atR L p) < 0) → IsSums ((List.range (i.k + 1)).map g) (L.take p ++ x :: L.drop p) ∧ Asc keyC (L.take p ++ x :: L.drop p) := fun hlt => by
      have hafter : ∀ j, p ≤ j → j < L.length → keyC x (atR L j) < 0 := fun j hpj hj => by
        by_cases q : p = j
        · rw [← q]; exact hlt (by omega)
        · exact keyC_preC.lt_trans (hlt (by omega)) (asc_at ha (by omega) hj)
      have hnone : ∀ y ∈ L, sameK y x = false := fun y hy => by
        obtain ⟨j, hj, rfl⟩ := mem_atR hy
        by_cases q : j < p
        · exact hne j q
        · cases q2 : sameK (atR L j) x with
          | false => rfl
          | true => have := hafter j (by omega) hj; rw [keyC_zero.2 (sameK_symm q2)] at this; omega
      obtain ⟨n1, n2⟩ := getK_no hnone
      have e : addK L x = x := by unfold addK; rw [n1]; simp
      rw [e, n2 x (sameK_self x)] at hstep
      have hperm : (L ++ [x]).Perm (L.take p ++ x :: L.drop p) := by
        have h1 : (L ++ [x]).Perm (x :: L) := List.perm_append_singleton x L
        have e2 : (L.take p ++ x :: L.drop p).Perm (x :: (L.take p ++ L.drop p)) := List.perm_middle
        rw [List.take_append_drop] at e2
        exact h1.trans e2.symm
      refine ⟨by rw [hrange]; exact hstep.perm (List.Perm.refl _) hperm, ?_⟩
      · refine Asc.insert (by rw [List.take_append_drop]; exact ha) (fun y hy => ?_) (fun y hy => ?_)
        · obtain ⟨j, hj, rfl⟩ := List.mem_iff_getElem.1 hy
          rw [List.length_take] at hj
          have hjL : j < L.length := by omega
          have := hplt j (by omega)
          simpa [atR, hjL] using this
        · obtain ⟨j, hj, rfl⟩ := List.mem_iff_getElem.1 hy
          rw [List.length_drop] at hj
          have hjL : p + j < L.length := by omega
          have := hafter (p + j) (by omega) hjL
          simpa [atR, hjL] using this
    have hlen2 : (L.take p ++ x :: L.drop p).length = 0 + p + 1 + (L.length - p) := by simp; omega
    refine ⟨⟨by omega, by omega, rfl⟩, ⟨rfl, rowsEqR _⟩, by omega, condP_dec (fun h2 => ⟨⟨by omega, by omega⟩, ⟨by omega, rfl⟩, trivial, condP_ndec (fun h3 => ?_) (fun h3 => ?_)⟩) (fun h2 => ?_)⟩
    · have hpL : p < L.length := by omega
      have h3 : ¬ keyC x (atR L p) < 0 := h3
      have hsame : sameK (atR L p) x = true := by
        have := hpa hpL
        have := keyC_preC.neg x (atR L p)
        have := keyC_preC.neg (atR L p) x
        exact keyC_zero.1 (by omega)
      have hgK := getK_at hpL hne hsame
      rw [hgK] at hgot
      have e1 : (atR L p).u = sumU x ((List.range i.k).map g) := hgot.1
      have e2 : (atR L p).tv = sumT x ((List.range i.k).map g) := hgot.2
      obtain ⟨q1, q2, q3⟩ := sameK_iff.1 hsame
      have hy : addK L x = ⟨(atR L p).o, (atR L p).p, (atR L p).per, (atR L p).u + x.u, (atR L p).tv + x.tv⟩ := by
        unfold addK
        rw [hgK, q1, q2, q3, Int.add_comm (atR L p).u, Int.add_comm (atR L p).tv]
        rfl
      have hsy : sameK (atR L p) (addK L x) = true := sameK_trans hsame (sameK_symm (addK_same L x))
      have hset : setK L (addK L x) = L.set p (addK L x) := setK_at hpL (fun j hj => by
        cases q : sameK (atR L j) (addK L x) with
        | false => rfl
        | true => have := hne j hj; rw [sameK_trans q (addK_same L x)] at this; cases this) hsy
      rw [hset] at hstep
      refine ⟨⟨rfl, rowsEqR _⟩, hpL, ?_, ⟨rfl, rowsEqR _⟩, hpL, ?_, by simp only [inR]; omega, ⟨i.k + 1, L.set p (addK L x)⟩, ⟨?_, ⟨rfl, rfl, rfl, (List.length_set ..).symm, rfl, fun j hj => ?_⟩, trivial⟩, ⟨by show i.k + 1 ≤ n; omega, by rw [hrange]; exact hstep, asc_set ha hpL hsy, ?_⟩, by show n - (i.k + 1) < n - i.k; omega⟩
      · simp only [inR]; omega
      · show inR .i64 ((setU (atR L) p x p).tv + x.tv)
        have : (setU (atR L) p x p).tv = (atR L p).tv := by unfold setU; rw [if_pos rfl]
        rw [this]
        simp only [inR]; omega
      · show TEq _ [(5, .own 0 (L.set p (addK L x)).length), _, _, _]
        rw [List.length_set]; rfl
      · show rwRow (setT (setU (atR L) p x) p x) j = rwRow (atR (L.set p (addK L x))) j
        have : setT (setU (atR L) p x) p x j = atR (L.set p (addK L x)) j := by
          unfold setT setU
          by_cases q : j = p
          · subst q
            rw [if_pos rfl, if_pos rfl, hy]
            simp [atR, hj]
          · rw [if_neg q, if_neg q]
            simp [atR, List.getElem?_set_ne (Ne.symm q)]
        unfold rwRow
        rw [this]
      · show (L.set p (addK L x)).length ≤ i.k + 1
        rw [List.length_set]; omega
    all_goals
      have hlt : p < L.length → keyC x (atR L p) < 0 := by
        intro q
        first
          | exact h3
          | exact absurd q (by omega)
      obtain ⟨s1, s2⟩ := ins hlt
      refine ⟨⟨by omega, rfl, by omega⟩, ⟨by omega, by omega⟩, ⟨⟨by omega, rfl⟩, Nat.le_refl _, rfl, rfl, rfl, by omega, ?_⟩, ⟨by omega, rfl, by omega⟩, ⟨⟨Nat.le_refl _, rfl⟩, Nat.le_refl _, rfl, rfl, rfl, by omega, ?_⟩, ⟨by omega, by omega⟩, ⟨⟨by omega, rfl, rfl⟩, Nat.le_refl _, rfl, rfl, rfl, by omega, ?_⟩, by simp only [inR]; omega, ⟨i.k + 1, L.take p ++ x :: L.drop p⟩, ⟨?_, ⟨rfl, rfl, rfl, hlen2.symm, rfl, fun j hj => ?_⟩, trivial⟩, ⟨by show i.k + 1 ≤ n; omega, s1, s2, ?_⟩, by show n - (i.k + 1) < n - i.k; omega⟩
      · show (0 + p) * 56 ≤ _
        omega
      · show (0 + p + 1) * 56 ≤ _
        omega
      · show (0 + p + 1 + (L.length - p)) * 56 ≤ _
        omega
      · show TEq _ [(5, .own 0 (L.take p ++ x :: L.drop p).length), _, _, _]
        rw [hlen2]; rfl
      · exact insRow (fun r : RW => [.str r.o, .str r.p, .int .i64 r.per, .int .i64 r.u, .int .i64 r.tv]) L x p hpl _ _ rfl j hj
      · show (L.take p ++ x :: L.drop p).length ≤ i.k + 1
        rw [hlen2]; omega
  · have hk : i.k = n := by omega
    rw [hk] at hs
    have e : i.L = srtR (sumsF g n) := by
      obtain ⟨a1, a2⟩ := srt_asc keyC_preC (l := sumsF g n) ((sumsF_ok g n).parts.imp fun {a b} h q => by rw [keyC_zero.1 q] at h; cases h)
      exact hs.uniq ((sumsF_ok g n).perm (List.Perm.refl _) a2.symm) ha a1
    rw [e]
    exact ⟨fun _ _ => rfl, _, rowsEqR _, hQ⟩

theorem rcomb_ok (hP : C.P = Tryz.prog) : SpecOK C 18 S_comb := by
  rintro args objs U Os vc h hvc
  unfold S_comb at h
  split at h <;> simp only [Option.some.injEq, Prod.mk.injEq, reduceCtorEq] at h
  rename_i n f
  obtain ⟨rfl, rfl, rfl⟩ := h
  obtain ⟨hn, hf, hs⟩ := hvc
  generalize rwOf f = g at *
  subst hf
  refine ACalls.nilv 5 (rwRow (atR [])) (ACalls.frzO 0 ?_)
  refine RSpecOK.wpL (prg hP) [(20, .det S_sval)] [(6, L_rc g n)] 0 (.cons (rval_ok hP) .nil) (hP ▸ Tryz.func18) rfl rfl rfl
    [(loopC Tryz.f18 6, L_rc g n)] (by kernel_rfl) ⟨rc_loop hP g n, trivial⟩ ?_
  rw [nf_rc]
  have hg : rwOf (rwRow g) = g := rfl
  rw [hg]
  refine ⟨⟨hn, rfl, hs⟩, condP_ndec (fun q => ?_) (fun q => ?_)⟩
  · have hc : combL g n = [] := by unfold combL; rw [decide_eq_false q]; rfl
    rw [hc]
    exact ⟨rfl, rfl⟩
  · obtain ⟨q1, q2⟩ := svF_zero q
    have hc : combL g n = srtR (sumsF g n) := by unfold combL; rw [decide_eq_true q]; rfl
    rw [hc, q]
    refine ⟨⟨rfl, ⟨rfl, rfl, rfl, rfl, rfl, fun i hi => absurd hi (Nat.not_lt_zero i)⟩, trivial⟩, q1, q2, fun _ _ => rfl, _, rowsEqR _, fun _ _ => rfl, ?_⟩
    have hb : Nat.ble (srtR (sumsF g n)).length (srtR (sumsF g n)).length = true := Nat.ble_eq_true_of_le (Nat.le_refl _)
    constructor
    · simp [nilvC, nilvA, frzC, frzA, frz, hb, nilv]
    · rfl

theorem eqRows_stop {g h : Nat → RW} {k : Nat} (e : eqRows g h (k + 1) = false) : ∀ n, k < n → eqRows g h n = false
  | 0, hn => by omega
  | n + 1, hn => by
    by_cases q : k = n
    · subst q; exact e
    · rw [eqRows, eqRows_stop e n (by omega), Bool.false_and]
theorem sr_loop (hP : C.P = Tryz.prog) (g h : Nat → RW) (n : Nat) : LoopOK C 0 26 (loopC Tryz.f21 4) (L_sr g h n) := by
  have _ : C.Loose := inferInstance
  rintro st Q ⟨h0, hn, hQ⟩
  have hR := condP_elim hQ
  refine LoopOK.mk (prg hP) [] 0 .nil [0, 1, 12, 13] [] [4] (S_sr g h n) (fun k => k ≤ n ∧ eqRows g h k = true) (fun k => n - k) 0 ⟨Nat.zero_le _, rfl⟩ h0 (fun k hk => ?_)
  obtain ⟨hkn, hok⟩ := hk
  rw [nf_sr_round, Int.toNat_natCast]
  refine condP_dec (fun h1 => ?_) (fun h1 => ?_)
  · refine ⟨⟨by omega, by omega, rfl⟩, ⟨by omega, by omega, rfl⟩, condP_not (fun h2 => hR.2 (eqRows_stop (k := k) (by rw [eqRows, h2, Bool.and_false]) n (by omega))) (fun h2 => ⟨by simp only [inR]; omega, k + 1, rfl, ⟨by omega, ?_⟩, by omega⟩)⟩
    rw [eqRows, hok]; exact h2
  · have : k = n := by omega
    subst this
    exact hR.1 hok
theorem same13_ok (hP : C.P = Tryz.prog) : SpecOK C 21 S_same13 := by
  rintro args objs U Os vc h hvc
  unfold S_same13 at h
  split at h <;> simp only [Option.some.injEq, Prod.mk.injEq, reduceCtorEq] at h
  rename_i n f m h'
  obtain ⟨rfl, rfl, rfl⟩ := h
  obtain ⟨hn, hf, hh⟩ := hvc
  generalize rwOf f = g at *
  generalize rwOf h' = g' at *
  subst hf; subst hh
  refine SpecOK.wpL (prg hP) [] [(4, L_sr g g' n)] 0 .nil (hP ▸ Tryz.func21) rfl rfl rfl [(loopC Tryz.f21 4, L_sr g g' n)] (by kernel_rfl) ⟨sr_loop hP g g' n, trivial⟩ ?_
  rw [nf_sr]
  refine condP_ndec (fun h1 => ?_) (fun h1 => ?_)
  · rw [decide_eq_false (show ¬ n = m by omega)]; exact ⟨rfl, rfl⟩
  · have : n = m := by omega
    subst this
    rw [decide_eq_true rfl]
    exact ⟨rfl, hn, condP_intro (fun h2 => by rw [h2]; exact ⟨rfl, rfl⟩) (fun h2 => by rw [h2]; exact ⟨rfl, rfl⟩)⟩
theorem eqRows_self (g : Nat → RW) : ∀ n, eqRows g g n = true
  | 0 => rfl
  | n + 1 => by rw [eqRows, eqRows_self g n]; simp
end Go.Eng
