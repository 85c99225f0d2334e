/- Lemmas that the tied card of CollectionUnion is proved by. -/
import Derived.Test.YtokpcnppihgdlaaGreatDoorNp
import Derived.Test.YtokpcnppihgdlaaGreatDoorNw
import Derived.Test.YtokpcnppihgdlaaGreatDoorNt
/- IndexFunc and DeleteFunc at messages, of the marks that stand more than once. -/
namespace Go.Eng
open Go.Proofs Go.RowKit
variable {C : Ctx} [C.Loose]
set_option maxRecDepth 20000
theorem nf_right1 (m : MG) (es : List (AV × AV)) (R : AV → List (Nat × AObj) → Prop) : wpFn te [(83, .det S_mark)] [] 0 Tryz.f108 [.agg [.str m.dev, .int .i64 m.seq, .int .i64 m.kind, .str m.v.o, .str m.v.p, .int .i64 m.v.per, .int .i64 m.v.day, .int .i64 m.v.st, .int .i64 m.v.pr, .str m.v.rep, .str m.d.o, .str m.d.p, .int .i64 m.d.per, .str m.d.dev, .int .i64 m.d.num], .ptr 0 0] [.cells [.map 1] 131, .amap es] R = (True ∧ (KeysA (Env.te (Env.mk te [(83, CSpec.det S_mark)] [] (List.length [AObj.cells [.map 1] (131 : TypeId), .amap es]) (Func.ntmps Tryz.f108) 0)) 79 es ∧ .int .i64 (intOf (Option.getD (mget es (.agg [.str (MG.dev m), .int .i64 (MG.seq m)])) (.int .i64 0))) = Option.getD (mget es (.agg [.str (MG.dev m), .int .i64 (MG.seq m)])) (.int .i64 0)) ∧ R (.bool (decide ((1 : Int) < intOf (Option.getD (mget es (.agg [.str (MG.dev m), .int .i64 (MG.seq m)])) (.int .i64 0))))) [(0, .cells [.map 1] 131), (1, .amap (List.map (fun (p : AV × AV) => (AV.rn (ren (List.length [AObj.cells [.map 1] (131 : TypeId), .amap es]) []) (Prod.fst p), AV.rn (ren (List.length [AObj.cells [.map 1] (131 : TypeId), .amap es]) []) (Prod.snd p))) es))]) := by kernel_rfl
theorem nf_ixr (es : List (AV × AV)) (g : Nat → MG) (n : Nat) (R : AV → List (Nat × AObj) → Prop) : wpFn te [(108, .det S_right1)] [(2, L_ixr es g n)] 0 Tryz.f81 [.own 0 n, .func 108 [.ptr 1 0]] [.row 56 15 n (mgRow g) false, .cells [.map 2] 131, .amap es] R = ((TEq [(0, .own 0 n), (1, .func 108 [.ptr 1 0]), (7, .int .i64 (↑n : Int)), (8, .int .i64 0)] [(0, .own 0 n), (1, .func 108 [.ptr 1 0]), (7, .int .i64 (↑n : Int)), (8, .int .i64 (↑0 : Int))] ∧ RowsEq [(0, .row 56 15 n (mgRow g) false), (1, .cells [.map 2] 131), (2, .amap (List.map (fun (p : AV × AV) => (AV.rn (ren 3 []) (Prod.fst p), AV.rn (ren 3 []) (Prod.snd p))) es))] [(0, .row 56 15 n (mgRow g) false), (1, .cells [.map 2] 131), (2, .amap es)]) ∧ n ≤ 1000000 ∧ EsOK es ∧ condP (decide (fstB (fun (i : Nat) => delF es (g i)) n < n)) ((∀ (i : Nat), i < n → true = true) ∧ ∃ (O' : List (Nat × AObj)), RowsEq [(0, .row 56 15 n (mgRow g) false), (1, .cells [.map 2] 131), (List.length [AObj.cells [.map 2] (131 : TypeId), .amap es], .amap (List.map (fun (p : AV × AV) => (AV.rn (ren (List.length [AObj.row (56 : TypeId) 15 n (mgRow g) false, .cells [.map 2] (131 : TypeId), .amap es]) []) (Prod.fst p), AV.rn (ren (List.length [AObj.row (56 : TypeId) 15 n (mgRow g) false, .cells [.map 2] (131 : TypeId), .amap es]) []) (Prod.snd p))) es))] O' ∧ R (.int .i64 (↑(fstB (fun (i : Nat) => delF es (g i)) n) : Int)) O') ((∀ (i : Nat), i < n → true = true) ∧ ∃ (O' : List (Nat × AObj)), RowsEq [(0, .row 56 15 n (mgRow g) false), (1, .cells [.map 2] 131), (List.length [AObj.cells [.map 2] (131 : TypeId), .amap es], .amap (List.map (fun (p : AV × AV) => (AV.rn (ren (List.length [AObj.row (56 : TypeId) 15 n (mgRow g) false, .cells [.map 2] (131 : TypeId), .amap es]) []) (Prod.fst p), AV.rn (ren (List.length [AObj.row (56 : TypeId) 15 n (mgRow g) false, .cells [.map 2] (131 : TypeId), .amap es]) []) (Prod.snd p))) es))] O' ∧ R (.int .i64 (-1 : Int)) O')) := by kernel_rfl
theorem nf_ixr_round (es : List (AV × AV)) (g : Nat → MG) (n k : Nat) (P : Nat → Prop) (R : Exit → St → Prop) : roundP ⟨te, [(108, .det S_right1)], [], 3, 19, 0⟩ (loopB Tryz.f81 2) [0, 1, 7, 8] [] [4] (S_ixr es g n) P R (S_ixr es g n k) = (condP (decide ((↑k : Int) < (↑n : Int))) (((0 : Int) ≤ (↑k : Int) ∧ (↑k : Int) < (↑n : Int)) ∧ (Int.toNat (↑k : Int) < n ∧ 15 = 15) ∧ (131 = 131 ∧ EsOK (List.map (fun (p : AV × AV) => (AV.rn (idxN [1, 2]) (Prod.fst p), AV.rn (idxN [1, 2]) (Prod.snd p))) es)) ∧ condP (delF (List.map (fun (p : AV × AV) => (AV.rn (idxN [1, 2]) (Prod.fst p), AV.rn (idxN [1, 2]) (Prod.snd p))) es) (MG.mk (MG.dev (g (Int.toNat (↑k : Int)))) (MG.seq (g (Int.toNat (↑k : Int)))) (MG.kind (g (Int.toNat (↑k : Int)))) (VT.mk (VT.o (MG.v (g (Int.toNat (↑k : Int))))) (VT.p (MG.v (g (Int.toNat (↑k : Int))))) (VT.per (MG.v (g (Int.toNat (↑k : Int))))) (VT.day (MG.v (g (Int.toNat (↑k : Int))))) (VT.st (MG.v (g (Int.toNat (↑k : Int))))) (VT.pr (MG.v (g (Int.toNat (↑k : Int))))) (VT.rep (MG.v (g (Int.toNat (↑k : Int)))))) (DT.mk (DT.o (MG.d (g (Int.toNat (↑k : Int))))) (DT.p (MG.d (g (Int.toNat (↑k : Int))))) (DT.per (MG.d (g (Int.toNat (↑k : Int))))) (DT.dev (MG.d (g (Int.toNat (↑k : Int))))) (DT.num (MG.d (g (Int.toNat (↑k : Int)))))))) ((∀ (i : Nat), i < n → true = true) ∧ ∃ (O' : List (Nat × AObj)), RowsEq [(0, .row 56 15 n (mgRow g) false), (1, .cells [.map 2] 131), (2, .amap (List.map (fun (p : AV × AV) => (AV.rn (ren 3 []) (Prod.fst p), AV.rn (ren 3 []) (Prod.snd p))) (List.map (fun (p : AV × AV) => (AV.rn (sig [1, 2] 3) (Prod.fst p), AV.rn (sig [1, 2] 3) (Prod.snd p))) (List.map (fun (p : AV × AV) => (AV.rn (idxN [1, 2]) (Prod.fst p), AV.rn (idxN [1, 2]) (Prod.snd p))) es))))] O' ∧ R .ret (St.mk [(4, .int .i64 (↑k : Int))] O' 3 [])) (inR .i64 ((↑k : Int) + (1 : Int)) ∧ ∃ (i' : Nat), (TEq [(0, .own 0 n), (1, .func 108 [.ptr 1 0]), (7, .int .i64 (↑n : Int)), (8, .int .i64 ((↑k : Int) + (1 : Int)))] [(0, .own 0 n), (1, .func 108 [.ptr 1 0]), (7, .int .i64 (↑n : Int)), (8, .int .i64 (↑i' : Int))] ∧ RowsEq [(0, .row 56 15 n (mgRow g) false), (1, .cells [.map 2] 131), (2, .amap (List.map (fun (p : AV × AV) => (AV.rn (ren 3 []) (Prod.fst p), AV.rn (ren 3 []) (Prod.snd p))) (List.map (fun (p : AV × AV) => (AV.rn (sig [1, 2] 3) (Prod.fst p), AV.rn (sig [1, 2] 3) (Prod.snd p))) (List.map (fun (p : AV × AV) => (AV.rn (idxN [1, 2]) (Prod.fst p), AV.rn (idxN [1, 2]) (Prod.snd p))) es))))] [(0, .row 56 15 n (mgRow g) false), (1, .cells [.map 2] 131), (2, .amap es)]) ∧ P i')) ((∀ (i : Nat), i < n → true = true) ∧ ∃ (O' : List (Nat × AObj)), RowsEq [(0, .row 56 15 n (mgRow g) false), (1, .cells [.map 2] 131), (2, .amap (List.map (fun (p : AV × AV) => (AV.rn (ren 3 []) (Prod.fst p), AV.rn (ren 3 []) (Prod.snd p))) es))] O' ∧ R (.exit 0) (St.mk [] O' 3 []))) := by kernel_rfl
theorem nf_df (es : List (AV × AV)) (g : Nat → MG) (n : Nat) (R : AV → List (Nat × AObj) → Prop) : wpFn te [(81, .det S_ixR)] [(5, L_df es g n (fstB (fun i => delF es (g i)) n))] 0 Tryz.f107 [.own 0 n, .func 108 [.ptr 1 0]] [.row 56 15 n (mgRow g) false, .cells [.map 2] 131, .amap es] R = ((∀ (i : Nat), i < n → true = true) ∧ (56 = 56 ∧ 131 = 131 ∧ false = false ∧ n = n ∧ n ≤ 1000000 ∧ mgRow g = mgRow (mgOf (mgRow g)) ∧ EsOK (List.map (fun (p : AV × AV) => (AV.rn (idxN [0, 1, 2]) (Prod.fst p), AV.rn (idxN [0, 1, 2]) (Prod.snd p))) es)) ∧ (∀ (i : Nat), i < n → true = true) ∧ condP (decide (ixB (fun (i : Nat) => delF (List.map (fun (p : AV × AV) => (AV.rn (idxN [0, 1, 2]) (Prod.fst p), AV.rn (idxN [0, 1, 2]) (Prod.snd p))) es) (mgOf (mgRow g) i)) n = (-1 : Int))) ((∀ (i : Nat), i < n → true = true) ∧ ∃ (O' : List (Nat × AObj)), RowsEq [(0, .row 56 15 n (mgRow g) false), (1, .cells [.map 2] 131), (List.length [AObj.cells [.map 2] (131 : TypeId), .amap es], .amap (List.map (fun (p : AV × AV) => (AV.rn (ren (List.length [AObj.row (56 : TypeId) 15 n (mgRow g) false, .cells [.map 2] (131 : TypeId), .amap es]) []) (Prod.fst p), AV.rn (ren (List.length [AObj.row (56 : TypeId) 15 n (mgRow g) false, .cells [.map 2] (131 : TypeId), .amap es]) []) (Prod.snd p))) (List.map (fun (p : AV × AV) => (AV.rn (sig [0, 1, 2] 3) (Prod.fst p), AV.rn (sig [0, 1, 2] 3) (Prod.snd p))) (List.map (fun (p : AV × AV) => (AV.rn (idxN [0, 1, 2]) (Prod.fst p), AV.rn (idxN [0, 1, 2]) (Prod.snd p))) es))))] O' ∧ R (.own 0 n) O') (inR .i64 (ixB (fun (i : Nat) => delF (List.map (fun (p : AV × AV) => (AV.rn (idxN [0, 1, 2]) (Prod.fst p), AV.rn (idxN [0, 1, 2]) (Prod.snd p))) es) (mgOf (mgRow g) i)) n + (1 : Int)) ∧ (TEq [(0, .own 0 n), (1, .func 108 [.ptr 1 0]), (5, .int .i64 (ixB (fun (i : Nat) => delF (List.map (fun (p : AV × AV) => (AV.rn (idxN [0, 1, 2]) (Prod.fst p), AV.rn (idxN [0, 1, 2]) (Prod.snd p))) es) (mgOf (mgRow g) i)) n)), (6, .int .i64 (ixB (fun (i : Nat) => delF (List.map (fun (p : AV × AV) => (AV.rn (idxN [0, 1, 2]) (Prod.fst p), AV.rn (idxN [0, 1, 2]) (Prod.snd p))) es) (mgOf (mgRow g) i)) n + (1 : Int)))] [(0, .own 0 n), (1, .func 108 [.ptr 1 0]), (5, .int .i64 (↑(CI.w (CI.mk (fstB (fun (i : Nat) => delF es (g i)) n + 1) (fstB (fun (i : Nat) => delF es (g i)) n) g)) : Int)), (6, .int .i64 (↑(CI.k (CI.mk (fstB (fun (i : Nat) => delF es (g i)) n + 1) (fstB (fun (i : Nat) => delF es (g i)) n) g)) : Int))] ∧ RowsEq [(0, .row 56 15 n (mgRow g) false), (1, .cells [.map 2] 131), (2, .amap (List.map (fun (p : AV × AV) => (AV.rn (ren 3 []) (Prod.fst p), AV.rn (ren 3 []) (Prod.snd p))) (List.map (fun (p : AV × AV) => (AV.rn (sig [0, 1, 2] 3) (Prod.fst p), AV.rn (sig [0, 1, 2] 3) (Prod.snd p))) (List.map (fun (p : AV × AV) => (AV.rn (idxN [0, 1, 2]) (Prod.fst p), AV.rn (idxN [0, 1, 2]) (Prod.snd p))) es))))] [(0, .row 56 15 n (mgRow (CI.h (CI.mk (fstB (fun (i : Nat) => delF es (g i)) n + 1) (fstB (fun (i : Nat) => delF es (g i)) n) g))) false), (1, .cells [.map 2] 131), (2, .amap es)]) ∧ (fstB (fun (i : Nat) => delF es (g i)) n < n ∧ n ≤ 1000000) ∧ EsOK es ∧ (∀ (j : Nat), j < fstB (fun (i : Nat) => delF es (g i)) n → delF es (g j) = false) ∧ delF es (g (fstB (fun (i : Nat) => delF es (g i)) n)) = true ∧ ∀ (w : Nat) (h : Nat → MG), w ≤ n → lst h w = kpL es g n → ((0 : Int) ≤ (↑w : Int) ∧ (↑w : Int) ≤ (↑n : Int)) ∧ Int.toNat (↑w : Int) ≤ n ∧ ((0 : Int) ≤ (↑w : Int) ∧ (↑w : Int) ≤ (↑n : Int)) ∧ (∀ (i : Nat), i < Int.toNat (↑w : Int) → true = true) ∧ ∃ (O' : List (Nat × AObj)), RowsEq [(0, .row 56 15 (Int.toNat (↑w : Int)) (mgRow h) false), (1, .cells [.map 2] 131), (List.length [AObj.cells [.map 2] (131 : TypeId), .amap es], .amap (List.map (fun (p : AV × AV) => (AV.rn (ren (List.length [AObj.row (56 : TypeId) 15 n (mgRow g) false, .cells [.map 2] (131 : TypeId), .amap es]) []) (Prod.fst p), AV.rn (ren (List.length [AObj.row (56 : TypeId) 15 n (mgRow g) false, .cells [.map 2] (131 : TypeId), .amap es]) []) (Prod.snd p))) es))] O' ∧ R (.own 0 (Int.toNat (↑w : Int))) O')) := by kernel_rfl
theorem nf_df_round (es : List (AV × AV)) (n : Nat) (i : CI) (P : CI → Prop) (R : Exit → St → Prop) : roundP ⟨te, [(108, .det S_right1)], [], 3, 42, 0⟩ (loopB Tryz.f107 5) [0, 1, 5, 6] [0, 5] [] (S_df es n) P R (S_df es n i) = (condP (decide ((↑(CI.k i) : Int) < (↑n : Int))) (((0 : Int) ≤ (↑(CI.k i) : Int) ∧ (↑(CI.k i) : Int) < (↑n : Int)) ∧ (Int.toNat (↑(CI.k i) : Int) < n ∧ 15 = 15) ∧ (131 = 131 ∧ EsOK (List.map (fun (p : AV × AV) => (AV.rn (idxN [1, 2]) (Prod.fst p), AV.rn (idxN [1, 2]) (Prod.snd p))) es)) ∧ condP (!delF (List.map (fun (p : AV × AV) => (AV.rn (idxN [1, 2]) (Prod.fst p), AV.rn (idxN [1, 2]) (Prod.snd p))) es) (MG.mk (MG.dev (CI.h i (Int.toNat (↑(CI.k i) : Int)))) (MG.seq (CI.h i (Int.toNat (↑(CI.k i) : Int)))) (MG.kind (CI.h i (Int.toNat (↑(CI.k i) : Int)))) (VT.mk (VT.o (MG.v (CI.h i (Int.toNat (↑(CI.k i) : Int))))) (VT.p (MG.v (CI.h i (Int.toNat (↑(CI.k i) : Int))))) (VT.per (MG.v (CI.h i (Int.toNat (↑(CI.k i) : Int))))) (VT.day (MG.v (CI.h i (Int.toNat (↑(CI.k i) : Int))))) (VT.st (MG.v (CI.h i (Int.toNat (↑(CI.k i) : Int))))) (VT.pr (MG.v (CI.h i (Int.toNat (↑(CI.k i) : Int))))) (VT.rep (MG.v (CI.h i (Int.toNat (↑(CI.k i) : Int)))))) (DT.mk (DT.o (MG.d (CI.h i (Int.toNat (↑(CI.k i) : Int))))) (DT.p (MG.d (CI.h i (Int.toNat (↑(CI.k i) : Int))))) (DT.per (MG.d (CI.h i (Int.toNat (↑(CI.k i) : Int))))) (DT.dev (MG.d (CI.h i (Int.toNat (↑(CI.k i) : Int))))) (DT.num (MG.d (CI.h i (Int.toNat (↑(CI.k i) : Int)))))))) (((0 : Int) ≤ (↑(CI.w i) : Int) ∧ (↑(CI.w i) : Int) < (↑n : Int)) ∧ (List.length [AV.str (MG.dev (CI.h i (Int.toNat (↑(CI.k i) : Int)))), .int .i64 (MG.seq (CI.h i (Int.toNat (↑(CI.k i) : Int)))), .int .i64 (MG.kind (CI.h i (Int.toNat (↑(CI.k i) : Int)))), .str (VT.o (MG.v (CI.h i (Int.toNat (↑(CI.k i) : Int))))), .str (VT.p (MG.v (CI.h i (Int.toNat (↑(CI.k i) : Int))))), .int .i64 (VT.per (MG.v (CI.h i (Int.toNat (↑(CI.k i) : Int))))), .int .i64 (VT.day (MG.v (CI.h i (Int.toNat (↑(CI.k i) : Int))))), .int .i64 (VT.st (MG.v (CI.h i (Int.toNat (↑(CI.k i) : Int))))), .int .i64 (VT.pr (MG.v (CI.h i (Int.toNat (↑(CI.k i) : Int))))), .str (VT.rep (MG.v (CI.h i (Int.toNat (↑(CI.k i) : Int))))), .str (DT.o (MG.d (CI.h i (Int.toNat (↑(CI.k i) : Int))))), .str (DT.p (MG.d (CI.h i (Int.toNat (↑(CI.k i) : Int))))), .int .i64 (DT.per (MG.d (CI.h i (Int.toNat (↑(CI.k i) : Int))))), .str (DT.dev (MG.d (CI.h i (Int.toNat (↑(CI.k i) : Int))))), .int .i64 (DT.num (MG.d (CI.h i (Int.toNat (↑(CI.k i) : Int)))))] = 15 ∧ Int.toNat (↑(CI.w i) : Int) < n ∧ 15 = 15) ∧ inR .i64 ((↑(CI.w i) : Int) + (1 : Int)) ∧ inR .i64 ((↑(CI.k i) : Int) + (1 : Int)) ∧ ∃ (i' : CI), (TEq [(0, .own 0 n), (1, .func 108 [.ptr 1 0]), (5, .int .i64 ((↑(CI.w i) : Int) + (1 : Int))), (6, .int .i64 ((↑(CI.k i) : Int) + (1 : Int)))] [(0, .own 0 n), (1, .func 108 [.ptr 1 0]), (5, .int .i64 (↑(CI.w i') : Int)), (6, .int .i64 (↑(CI.k i') : Int))] ∧ RowsEq [(0, .row 56 15 n (fun (k : Nat) => if k = Int.toNat (↑(CI.w i) : Int) then [.str (MG.dev (CI.h i (Int.toNat (↑(CI.k i) : Int)))), .int .i64 (MG.seq (CI.h i (Int.toNat (↑(CI.k i) : Int)))), .int .i64 (MG.kind (CI.h i (Int.toNat (↑(CI.k i) : Int)))), .str (VT.o (MG.v (CI.h i (Int.toNat (↑(CI.k i) : Int))))), .str (VT.p (MG.v (CI.h i (Int.toNat (↑(CI.k i) : Int))))), .int .i64 (VT.per (MG.v (CI.h i (Int.toNat (↑(CI.k i) : Int))))), .int .i64 (VT.day (MG.v (CI.h i (Int.toNat (↑(CI.k i) : Int))))), .int .i64 (VT.st (MG.v (CI.h i (Int.toNat (↑(CI.k i) : Int))))), .int .i64 (VT.pr (MG.v (CI.h i (Int.toNat (↑(CI.k i) : Int))))), .str (VT.rep (MG.v (CI.h i (Int.toNat (↑(CI.k i) : Int))))), .str (DT.o (MG.d (CI.h i (Int.toNat (↑(CI.k i) : Int))))), .str (DT.p (MG.d (CI.h i (Int.toNat (↑(CI.k i) : Int))))), .int .i64 (DT.per (MG.d (CI.h i (Int.toNat (↑(CI.k i) : Int))))), .str (DT.dev (MG.d (CI.h i (Int.toNat (↑(CI.k i) : Int))))), .int .i64 (DT.num (MG.d (CI.h i (Int.toNat (↑(CI.k i) : Int)))))] else mgRow (CI.h i) k) false), (1, .cells [.map 2] 131), (2, .amap (List.map (fun (p : AV × AV) => (AV.rn (ren 3 []) (Prod.fst p), AV.rn (ren 3 []) (Prod.snd p))) (List.map (fun (p : AV × AV) => (AV.rn (sig [1, 2] 5) (Prod.fst p), AV.rn (sig [1, 2] 5) (Prod.snd p))) (List.map (fun (p : AV × AV) => (AV.rn (idxN [1, 2]) (Prod.fst p), AV.rn (idxN [1, 2]) (Prod.snd p))) es))))] [(0, .row 56 15 n (mgRow (CI.h i')) false), (1, .cells [.map 2] 131), (2, .amap es)]) ∧ P i') (inR .i64 ((↑(CI.k i) : Int) + (1 : Int)) ∧ ∃ (i' : CI), (TEq [(0, .own 0 n), (1, .func 108 [.ptr 1 0]), (5, .int .i64 (↑(CI.w i) : Int)), (6, .int .i64 ((↑(CI.k i) : Int) + (1 : Int)))] [(0, .own 0 n), (1, .func 108 [.ptr 1 0]), (5, .int .i64 (↑(CI.w i') : Int)), (6, .int .i64 (↑(CI.k i') : Int))] ∧ RowsEq [(0, .row 56 15 n (mgRow (CI.h i)) false), (1, .cells [.map 2] 131), (2, .amap (List.map (fun (p : AV × AV) => (AV.rn (ren 3 []) (Prod.fst p), AV.rn (ren 3 []) (Prod.snd p))) (List.map (fun (p : AV × AV) => (AV.rn (sig [1, 2] 5) (Prod.fst p), AV.rn (sig [1, 2] 5) (Prod.snd p))) (List.map (fun (p : AV × AV) => (AV.rn (idxN [1, 2]) (Prod.fst p), AV.rn (idxN [1, 2]) (Prod.snd p))) es))))] [(0, .row 56 15 n (mgRow (CI.h i')) false), (1, .cells [.map 2] 131), (2, .amap es)]) ∧ P i')) ((∀ (i : Nat), i < n → true = true) ∧ ∃ (O' : List (Nat × AObj)), RowsEq [(0, .row 56 15 n (mgRow (CI.h i)) false), (1, .cells [.map 2] 131), (2, .amap (List.map (fun (p : AV × AV) => (AV.rn (ren 3 []) (Prod.fst p), AV.rn (ren 3 []) (Prod.snd p))) es))] O' ∧ R (.exit 0) (St.mk [(0, .own 0 n), (5, .int .i64 (↑(CI.w i) : Int))] O' 3 []))) := by kernel_rfl

theorem right1_ok (hP : C.P = Tryz.prog) : SpecOK C 108 S_right1 := by
  rintro args objs U Os vc h hvc
  unfold S_right1 at h
  split at h <;> simp only [Option.some.injEq, Prod.mk.injEq, reduceCtorEq] at h
  rename_i dev seq kind o p per day st pr rep o' p' per' dev' num t es
  obtain ⟨rfl, rfl, rfl⟩ := h
  obtain ⟨rfl, L, rfl, hnd⟩ := hvc
  refine SpecOK.wp0 (prg hP) [(83, .det S_mark)] 0 (.cons (mark_ok hP) .nil) (hP ▸ Tryz.func108) rfl rfl rfl ?_
  have hn := nf_right1 ⟨dev, seq, kind, ⟨o, p, per, day, st, pr, rep⟩, ⟨o', p', per', dev', num⟩⟩ (entM L)
  dsimp only at hn
  rw [hn, entM_rn]
  have F1 : Option.getD (mget (entM L) (.agg [.str dev, .int .i64 seq])) (.int .i64 0) = .int .i64 (getC L (dev, seq)) := mget_entM (dev, seq) L
  refine ⟨trivial, ⟨entM_keys hnd, ?_⟩, rfl, rfl⟩
  rw [F1]; rfl
theorem ixr_loop (hP : C.P = Tryz.prog) (es : List (AV × AV)) (g : Nat → MG) (n : Nat) : LoopOK C 3 19 (loopC Tryz.f81 2) (L_ixr es g n) := by
  rintro st Q ⟨h0, hn, ⟨L, rfl, hnd⟩, hQ⟩
  have hR := condP_elim hQ
  refine LoopOK.mk (prg hP) [(108, .det S_right1)] 0 (.cons (right1_ok hP) .nil) [0, 1, 7, 8] [] [4] (S_ixr (entM L) g n) (fun k => k ≤ n ∧ fstB (fun i => delF (entM L) (g i)) k = k) (fun k => n - k) 0 ⟨Nat.zero_le _, rfl⟩ h0 (fun k hk => ?_) (fun i => ⟨fun _ _ => rfl, trivial⟩)
  obtain ⟨hkn, hok⟩ := hk
  rw [nf_ixr_round, Int.toNat_natCast]
  repeat rw [entM_rn]
  refine condP_dec (fun h1 => ?_) (fun h1 => ?_)
  · refine ⟨⟨by omega, by omega⟩, ⟨by omega, rfl⟩, ⟨rfl, L, rfl, hnd⟩, condP_intro (fun h2 => ?_) (fun h2 => ⟨by simp only [inR]; omega, k + 1, ⟨rfl, ⟨rfl, rfl, rfl, rfl, rfl, fun _ _ => rfl⟩, rfl, rfl, trivial⟩, ⟨by omega, fstB_not hok h2⟩, by omega⟩)⟩
    have e := fstB_at hok h2 n (by omega)
    have := hR.1 (by rw [e, decide_eq_true]; omega)
    rw [e] at this
    exact ⟨fun _ _ => rfl, _, rowsEqR _, this⟩
  · have : k = n := by omega
    subst this
    exact ⟨fun _ _ => rfl, _, rowsEqR _, hR.2 (by rw [hok, decide_eq_false]; omega)⟩
theorem ixR_ok (hP : C.P = Tryz.prog) : SpecOK C 81 S_ixR := by
  rintro args objs U Os vc h hvc
  unfold S_ixR at h
  split at h <;> simp only [Option.some.injEq, Prod.mk.injEq, reduceCtorEq] at h
  rename_i n t m f fr t2 es
  obtain ⟨rfl, rfl, rfl⟩ := h
  obtain ⟨rfl, rfl, rfl, rfl, hn, hf, L, rfl, hnd⟩ := hvc
  generalize mgOf f = g at *
  subst hf
  refine SpecOK.wpL (prg hP) [(108, .det S_right1)] [(2, L_ixr (entM L) g n)] 0 (.cons (right1_ok hP) .nil) (hP ▸ Tryz.func81) rfl rfl rfl [(loopC Tryz.f81 2, L_ixr (entM L) g n)] (by kernel_rfl) ⟨ixr_loop hP _ g n, trivial⟩ ?_
  rw [nf_ixr]
  repeat rw [entM_rn]
  unfold ixB
  refine ⟨⟨rfl, ⟨rfl, rfl, rfl, rfl, rfl, fun _ _ => rfl⟩, rfl, rfl, trivial⟩, hn, ⟨L, rfl, hnd⟩, condP_dec (fun h => ?_) (fun h => ?_)⟩
  · rw [decide_eq_true h]; exact ⟨fun _ _ => rfl, _, rowsEqR _, rfl, rfl⟩
  · rw [decide_eq_false h]; exact ⟨fun _ _ => rfl, _, rowsEqR _, rfl, rfl⟩

theorem kpL_succ (es : List (AV × AV)) (g : Nat → MG) (k : Nat) : kpL es g (k + 1) = kpL es g k ++ bif delF es (g k) then [] else [g k] := by
  unfold kpL
  rw [lst_snocM, List.filter_append]
  cases h : delF es (g k) <;> simp [h]
theorem kpL_all {es : List (AV × AV)} {g : Nat → MG} : ∀ {k : Nat}, (∀ j, j < k → delF es (g j) = false) → kpL es g k = lst g k
  | 0, _ => rfl
  | k + 1, h => by
    rw [kpL_succ, kpL_all fun j hj => h j (by omega), h k (by omega), lst_snocM]; rfl
theorem df_loop (hP : C.P = Tryz.prog) (es : List (AV × AV)) (g : Nat → MG) (n i0 : Nat) : LoopOK C 3 42 (loopC Tryz.f107 5) (L_df es g n i0) := by
  rintro st Q ⟨h0, ⟨hi0, hn⟩, ⟨L, rfl, hnd⟩, hall, hdel, hQ⟩
  refine LoopOK.mk (prg hP) [(108, .det S_right1)] 0 (.cons (right1_ok hP) .nil) [0, 1, 5, 6] [0, 5] [] (S_df (entM L) n) (fun i => i.k ≤ n ∧ i.w < i.k ∧ lst i.h i.w = kpL (entM L) g i.k ∧ ∀ j, i.w ≤ j → i.h j = g j) (fun i => n - i.k) ⟨i0 + 1, i0, g⟩
    ⟨hi0, Nat.lt_succ_self _, ?_, fun _ _ => rfl⟩ h0 (fun i hi => ?_) (fun i => ⟨fun _ _ => rfl, trivial⟩)
  · show lst g i0 = kpL (entM L) g (i0 + 1)
    rw [kpL_succ, hdel, kpL_all hall]; simp
  obtain ⟨k, w, h⟩ := i
  obtain ⟨i1, i2, i3, i4⟩ := hi
  dsimp only at i1 i2 i3 i4
  rw [nf_df_round]
  dsimp only
  rw [Int.toNat_natCast, Int.toNat_natCast]
  repeat rw [entM_rn]
  refine condP_dec (fun h1 => ?_) (fun h1 => ?_)
  · have hk : k < n := by omega
    have r1 : h k = g k := i4 _ (by omega)
    refine ⟨⟨by omega, by omega⟩, ⟨by omega, rfl⟩, ⟨rfl, L, rfl, hnd⟩, condP_not (fun q => ?_) (fun q => ?_)⟩
    · have q : delF (entM L) (h k) = false := q
      rw [r1] at q
      refine ⟨⟨by omega, by omega⟩, ⟨rfl, by omega, rfl⟩, by simp only [inR]; omega, by simp only [inR]; omega, ⟨k + 1, w + 1, fun j => if j = w then h k else h j⟩, ⟨rfl, ⟨rfl, rfl, rfl, rfl, rfl, fun j hj => ?_⟩, rfl, rfl, trivial⟩, ⟨hk, ?_, ?_, fun j hj => ?_⟩, ?_⟩
      · unfold mgRow
        by_cases e : j = w
        · simp only [e, if_true]
        · simp only [e, if_false]
      · show w + 1 < k + 1
        omega
      · show lst (fun j => if j = w then h k else h j) (w + 1) = kpL (entM L) g (k + 1)
        have e : lst (fun j => if j = w then h k else h j) w = lst h w := List.map_congr_left fun j hj => by
          have := List.mem_range.1 hj
          rw [if_neg (by omega)]
        rw [lst_snocM, kpL_succ, q, e, i3, if_pos rfl, r1]; rfl
      · have hj : w + 1 ≤ j := hj
        show (if j = w then h k else h j) = g j
        rw [if_neg (by omega)]
        exact i4 j (by omega)
      · show n - (k + 1) < n - k
        omega
    · have q : delF (entM L) (h k) = true := q
      rw [r1] at q
      refine ⟨by simp only [inR]; omega, ⟨k + 1, w, h⟩, ⟨rfl, ⟨rfl, rfl, rfl, rfl, rfl, fun _ _ => rfl⟩, rfl, rfl, trivial⟩, ⟨hk, ?_, ?_, i4⟩, ?_⟩
      · show w < k + 1
        omega
      · show lst h w = kpL (entM L) g (k + 1)
        rw [kpL_succ, q, i3]; simp
      · show n - (k + 1) < n - k
        omega
  · have : k = n := by omega
    subst this
    exact ⟨fun _ _ => rfl, _, rowsEqR _, hQ w h (by omega) i3⟩
theorem delF_ok (hP : C.P = Tryz.prog) : RSpecOK C 107 R_delF := by
  rintro args objs R h
  unfold R_delF at h
  split at h
  · rename_i n t m f fr t2 es
    obtain ⟨rfl, rfl, rfl, rfl, hn, hf, ⟨L, rfl, hnd⟩, hR⟩ := h
    generalize mgOf f = g at *
    subst hf
    refine RSpecOK.wpL (prg hP) [(81, .det S_ixR)] [(5, L_df (entM L) g n (fstB (fun i => delF (entM L) (g i)) n))] 0 (.cons (ixR_ok hP) .nil) (hP ▸ Tryz.func107) rfl rfl rfl [(loopC Tryz.f107 5, L_df (entM L) g n (fstB (fun i => delF (entM L) (g i)) n))] (by kernel_rfl) ⟨df_loop hP _ g n _, trivial⟩ ?_
    rw [nf_df]
    repeat rw [entM_rn]
    have hg : mgOf (mgRow g) = g := rfl
    rw [hg]
    obtain ⟨f1, f2⟩ := fstB_spec (fun i => delF (entM L) (g i)) n
    have fle := fstB_le (fun i => delF (entM L) (g i)) n
    by_cases hlt : fstB (fun i => delF (entM L) (g i)) n < n
    · have hix : ixB (fun i => delF (entM L) (g i)) n = (fstB (fun i => delF (entM L) (g i)) n : Int) := by unfold ixB; rw [decide_eq_true hlt]; rfl
      rw [hix]
      have f2 := f2 hlt
      generalize fstB (fun i => delF (entM L) (g i)) n = i0 at *
      refine ⟨fun _ _ => rfl, ⟨rfl, rfl, rfl, rfl, hn, rfl, L, rfl, hnd⟩, fun _ _ => rfl, condP_dec (fun q => absurd q (by omega)) (fun _ => ⟨by simp only [inR]; omega, ⟨rfl, ⟨rfl, rfl, rfl, rfl, rfl, fun _ _ => rfl⟩, rfl, rfl, trivial⟩, ⟨hlt, hn⟩, ⟨L, rfl, hnd⟩, f1, f2, fun w h hw hl => ?_⟩)⟩
      rw [Int.toNat_natCast]
      exact ⟨⟨by omega, by omega⟩, hw, ⟨by omega, by omega⟩, fun _ _ => rfl, _, rowsEqR _, hR w h hl⟩
    · have hix : ixB (fun i => delF (entM L) (g i)) n = -1 := by unfold ixB; rw [decide_eq_false hlt]; rfl
      rw [hix]
      have e0 : fstB (fun i => delF (entM L) (g i)) n = n := by omega
      rw [e0] at f1
      exact ⟨fun _ _ => rfl, ⟨rfl, rfl, rfl, rfl, hn, rfl, L, rfl, hnd⟩, fun _ _ => rfl, condP_dec (fun _ => ⟨fun _ _ => rfl, _, rowsEqR _, hR n g (kpL_all f1).symm⟩) (fun q => absurd rfl q)⟩
  · exact h.elim
end Go.Eng
/- right: the messages whose mark stands once. -/
namespace Go.Eng
open Go.Proofs Go.RowKit
variable {C : Ctx} [C.Loose]
set_option maxRecDepth 20000
theorem nf_right (g : Nat → MG) (n : Nat) (R : AV → List (Nat × AObj) → Prop) : wpFn te [(38, .det S_mrgN), (106, .det S_counts), (107, .rel R_delF)] [] 0 Tryz.f77 [.view 15 n (mgRow g)] [] R = ((n ≤ 100000 ∧ mgRow g = mgRow (mgOf (mgRow g)) ∧ ∀ (i : Nat), i < n → MG.Sm (mgOf (mgRow g) i)) ∧ (∀ (i : Nat), i < List.length (mrgL (mgOf (mgRow g)) n noM 0) → true = true) ∧ (∀ (i : Nat), i < List.length (mrgL (mgOf (mgRow g)) n noM 0) → true = true) ∧ (56 = 56 ∧ false = false ∧ List.length (mrgL (mgOf (mgRow g)) n noM 0) = List.length (mrgL (mgOf (mgRow g)) n noM 0) ∧ List.length (mrgL (mgOf (mgRow g)) n noM 0) ≤ 1000000 ∧ mgRow (atM (mrgL (mgOf (mgRow g)) n noM 0)) = mgRow (mgOf (mgRow (atM (mrgL (mgOf (mgRow g)) n noM 0))))) ∧ (∀ (i : Nat), i < List.length (mrgL (mgOf (mgRow g)) n noM 0) → true = true) ∧ (∀ (i : Nat), i < List.length (mrgL (mgOf (mgRow g)) n noM 0) → true = true) ∧ 56 = 56 ∧ 131 = 131 ∧ false = false ∧ List.length (mrgL (mgOf (mgRow g)) n noM 0) = List.length (mrgL (mgOf (mgRow g)) n noM 0) ∧ List.length (mrgL (mgOf (mgRow g)) n noM 0) ≤ 1000000 ∧ mgRow (atM (mrgL (mgOf (mgRow g)) n noM 0)) = mgRow (mgOf (mgRow (atM (mrgL (mgOf (mgRow g)) n noM 0)))) ∧ EsOK (List.map (fun (p : AV × AV) => (AV.rn (idxN [0, 32, 16]) (Prod.fst p), AV.rn (idxN [0, 32, 16]) (Prod.snd p))) (List.map (fun (p : AV × AV) => (AV.rn (sig [0] 16) (Prod.fst p), AV.rn (sig [0] 16) (Prod.snd p))) (entM (cntL (mgOf (mgRow (atM (mrgL (mgOf (mgRow g)) n noM 0)))) (List.length (mrgL (mgOf (mgRow g)) n noM 0)))))) ∧ ∀ (k : Nat) (h : Nat → MG), lst h k = kpL (List.map (fun (p : AV × AV) => (AV.rn (idxN [0, 32, 16]) (Prod.fst p), AV.rn (idxN [0, 32, 16]) (Prod.snd p))) (List.map (fun (p : AV × AV) => (AV.rn (sig [0] 16) (Prod.fst p), AV.rn (sig [0] 16) (Prod.snd p))) (entM (cntL (mgOf (mgRow (atM (mrgL (mgOf (mgRow g)) n noM 0)))) (List.length (mrgL (mgOf (mgRow g)) n noM 0)))))) (mgOf (mgRow (atM (mrgL (mgOf (mgRow g)) n noM 0)))) (List.length (mrgL (mgOf (mgRow g)) n noM 0)) → (∀ (i : Nat), i < k → true = true) ∧ (∀ (i : Nat), i < k → true = true) ∧ ∃ (O' : List (Nat × AObj)), RowsEq [(0, .row 56 15 k (mgRow h) false)] O' ∧ R (.own 0 k) O') := by kernel_rfl

theorem mrgN_ok (hP : C.P = Tryz.prog) (hL : ∀ w, C.laid w → LaidW w) : SpecOK C 38 S_mrgN := by
  rintro args objs U Os vc h hvc
  unfold S_mrgN at h
  split at h <;> simp only [Option.some.injEq, Prod.mk.injEq, reduceCtorEq] at h
  rename_i n f
  obtain ⟨rfl, rfl, rfl⟩ := h
  obtain ⟨hn, hf, hs⟩ := hvc
  refine ACalls.nilArg 15 (mgRow noM) ?_
  exact mrg_ok hP hL _ _ _ _ _ rfl ⟨hn, Nat.zero_le _, hf, rfl, hs, fun i hi => absurd hi (Nat.not_lt_zero i)⟩
theorem cntE_entM (L : List ((List UInt8 × Int) × Int)) (x : MG) : cntE (entM L) x = getC L (mk2 x) := by
  unfold cntE
  have F1 : Option.getD (mget (entM L) (.agg [.str x.dev, .int .i64 x.seq])) (.int .i64 0) = .int .i64 (getC L (mk2 x)) := mget_entM (mk2 x) L
  rw [F1]; rfl
theorem mrgL_len (g : Nat → MG) (n : Nat) (h : Nat → MG) (m : Nat) : (mrgL g n h m).length ≤ n + m := by
  have := mrgF_len (lst g n ++ lst h m)
  have e : (lst g n ++ lst h m).length = n + m := by simp [lst]
  unfold mrgL; omega
theorem right_ok (hP : C.P = Tryz.prog) (hL : ∀ w, C.laid w → LaidW w) : SpecOK C 77 S_right := by
  rintro args objs U Os vc h hvc
  unfold S_right at h
  split at h <;> simp only [Option.some.injEq, Prod.mk.injEq, reduceCtorEq] at h
  rename_i n f
  obtain ⟨rfl, rfl, rfl⟩ := h
  obtain ⟨hn, hf, hs⟩ := hvc
  generalize mgOf f = g at *
  subst hf
  refine ACalls.frzO 0 ?_
  refine RSpecOK.wpL (prg hP) [(38, .det S_mrgN), (106, .det S_counts), (107, .rel R_delF)] [] 0 (.cons (mrgN_ok hP hL) (.cons (counts_ok hP) (.cons (delF_ok hP) .nil))) (hP ▸ Tryz.func77) rfl rfl rfl [] (by kernel_rfl) trivial ?_
  rw [nf_right]
  repeat rw [entM_rn]
  have hlen := mrgL_len g n noM 0
  have hM : mrgL (mgOf (mgRow g)) n noM 0 = mrgL g n noM 0 := rfl
  have hR : rightL g n = (mrgL g n noM 0).filter fun x => !decide (1 < numC (atM (mrgL g n noM 0)) (mk2 x) (mrgL g n noM 0).length) := rfl
  rw [hM]
  generalize mrgL g n noM 0 = M at *
  refine ⟨⟨hn, rfl, hs⟩, fun _ _ => rfl, fun _ _ => rfl, ⟨rfl, rfl, rfl, by omega, rfl⟩, fun _ _ => rfl, fun _ _ => rfl, rfl, rfl, rfl, rfl, by omega, rfl, ⟨cntL (atM M) M.length, rfl, cntL_nodup _ _⟩, fun k h hd => ?_⟩
  have hd : lst h k = kpL (entM (cntL (atM M) M.length)) (atM M) M.length := hd
  have e : kpL (entM (cntL (atM M) M.length)) (atM M) M.length = rightL g n := by
    unfold kpL
    rw [lst_atM, hR]
    refine List.filter_congr fun x _ => ?_
    unfold delF
    rw [cntE_entM, getC_cntL]
  rw [e] at hd
  generalize rightL g n = L at *
  obtain ⟨rfl, hat⟩ := lst_isM hd
  refine ⟨fun _ _ => rfl, fun _ _ => rfl, [(0, .row 56 15 L.length (mgRow (atM L)) false)], ⟨⟨rfl, rfl, rfl, rfl, rfl, fun i hi => ?_⟩, trivial⟩, fun _ _ => rfl, ?_⟩
  · unfold mgRow
    rw [hat i hi]
  · have hb : Nat.ble L.length L.length = true := Nat.ble_eq_true_of_le (Nat.le_refl _)
    constructor
    · simp [frzC, frzA, frz, hb]
    · rfl
end Go.Eng
/- candidates: what it answers. -/
namespace Go.Eng
open Go.Proofs Go.RowKit
variable {C : Ctx} [C.Loose]
set_option maxRecDepth 20000
theorem nf_cand (o p : List UInt8) (per : Int) (g : Nat → MG) (n : Nat) (R : AV → List (Nat × AObj) → Prop) : wpFn te [] [(3, L_cnd o p per g n)] 0 Tryz.f78 [.view 15 n (mgRow g), .str o, .str p, .int .i64 per] [] R = ((TEq [(1, .str o), (2, .str p), (3, .int .i64 per), (9, .own 0 0), (13, .view 15 n (mgRow g)), (14, .int .i64 (↑n : Int)), (15, .int .i64 0)] [(1, .str o), (2, .str p), (3, .int .i64 per), (9, .own 0 0), (13, .view 15 n (mgRow g)), (14, .int .i64 (↑n : Int)), (15, .int .i64 (↑0 : Int))] ∧ RowsEq [(0, .row 56 15 0 (fun (x : Nat) => []) false)] [(0, .row 56 15 0 (mgRow (atM (canL o p per g 0))) false)]) ∧ n ≤ 1000000 ∧ (∀ (i : Nat), i < List.length (canL o p per g n) → true = true) ∧ ∃ (O' : List (Nat × AObj)), RowsEq [(0, .row 56 15 (List.length (canL o p per g n)) (mgRow (atM (canL o p per g n))) false)] O' ∧ R (.own 0 (List.length (canL o p per g n))) O') := by kernel_rfl
theorem nf_cd2_round (o p : List UInt8) (per : Int) (g : Nat → MG) (n k : Nat) (P : Nat → Prop) (R : Exit → St → Prop) : roundP ⟨te, [], [], 0, 68, 0⟩ (loopB Tryz.f78 3) [1, 2, 3, 9, 13, 14, 15] [9] [] (S_cnd o p per g n) P R (S_cnd o p per g n k) = (condP (decide ((↑k : Int) < (↑n : Int))) (((0 : Int) ≤ (↑k : Int) ∧ (↑k : Int) < (↑n : Int) ∧ 15 = 15) ∧ condP (!decide (MG.kind (g (Int.toNat (↑k : Int))) = (1 : Int))) (inR .i64 ((↑k : Int) + (1 : Int)) ∧ ∃ (i' : Nat), (TEq [(1, .str o), (2, .str p), (3, .int .i64 per), (9, .own 0 (List.length (canL o p per g k))), (13, .view 15 n (mgRow g)), (14, .int .i64 (↑n : Int)), (15, .int .i64 ((↑k : Int) + (1 : Int)))] [(1, .str o), (2, .str p), (3, .int .i64 per), (9, .own 0 (List.length (canL o p per g i'))), (13, .view 15 n (mgRow g)), (14, .int .i64 (↑n : Int)), (15, .int .i64 (↑i' : Int))] ∧ RowsEq [(0, .row 56 15 (List.length (canL o p per g k)) (mgRow (atM (canL o p per g k))) false)] [(0, .row 56 15 (List.length (canL o p per g i')) (mgRow (atM (canL o p per g i'))) false)]) ∧ P i') (condP (!decide (VT.o (MG.v (g (Int.toNat (↑k : Int)))) = o)) (inR .i64 ((↑k : Int) + (1 : Int)) ∧ ∃ (i' : Nat), (TEq [(1, .str o), (2, .str p), (3, .int .i64 per), (9, .own 0 (List.length (canL o p per g k))), (13, .view 15 n (mgRow g)), (14, .int .i64 (↑n : Int)), (15, .int .i64 ((↑k : Int) + (1 : Int)))] [(1, .str o), (2, .str p), (3, .int .i64 per), (9, .own 0 (List.length (canL o p per g i'))), (13, .view 15 n (mgRow g)), (14, .int .i64 (↑n : Int)), (15, .int .i64 (↑i' : Int))] ∧ RowsEq [(0, .row 56 15 (List.length (canL o p per g k)) (mgRow (atM (canL o p per g k))) false)] [(0, .row 56 15 (List.length (canL o p per g i')) (mgRow (atM (canL o p per g i'))) false)]) ∧ P i') (condP (!decide (VT.p (MG.v (g (Int.toNat (↑k : Int)))) = p)) (inR .i64 ((↑k : Int) + (1 : Int)) ∧ ∃ (i' : Nat), (TEq [(1, .str o), (2, .str p), (3, .int .i64 per), (9, .own 0 (List.length (canL o p per g k))), (13, .view 15 n (mgRow g)), (14, .int .i64 (↑n : Int)), (15, .int .i64 ((↑k : Int) + (1 : Int)))] [(1, .str o), (2, .str p), (3, .int .i64 per), (9, .own 0 (List.length (canL o p per g i'))), (13, .view 15 n (mgRow g)), (14, .int .i64 (↑n : Int)), (15, .int .i64 (↑i' : Int))] ∧ RowsEq [(0, .row 56 15 (List.length (canL o p per g k)) (mgRow (atM (canL o p per g k))) false)] [(0, .row 56 15 (List.length (canL o p per g i')) (mgRow (atM (canL o p per g i'))) false)]) ∧ P i') (condP (!decide (VT.per (MG.v (g (Int.toNat (↑k : Int)))) = per)) (inR .i64 ((↑k : Int) + (1 : Int)) ∧ ∃ (i' : Nat), (TEq [(1, .str o), (2, .str p), (3, .int .i64 per), (9, .own 0 (List.length (canL o p per g k))), (13, .view 15 n (mgRow g)), (14, .int .i64 (↑n : Int)), (15, .int .i64 ((↑k : Int) + (1 : Int)))] [(1, .str o), (2, .str p), (3, .int .i64 per), (9, .own 0 (List.length (canL o p per g i'))), (13, .view 15 n (mgRow g)), (14, .int .i64 (↑n : Int)), (15, .int .i64 (↑i' : Int))] ∧ RowsEq [(0, .row 56 15 (List.length (canL o p per g k)) (mgRow (atM (canL o p per g k))) false)] [(0, .row 56 15 (List.length (canL o p per g i')) (mgRow (atM (canL o p per g i'))) false)]) ∧ P i') (condP (decide ((0 : Int) < (↑(List.length (canL o p per g k)) : Int))) (inR .i64 ((↑(List.length (canL o p per g k)) : Int) - (1 : Int)) ∧ ((0 : Int) ≤ (↑(List.length (canL o p per g k)) : Int) - (1 : Int) ∧ (↑(List.length (canL o p per g k)) : Int) - (1 : Int) < (↑(List.length (canL o p per g k)) : Int)) ∧ (Int.toNat ((↑(List.length (canL o p per g k)) : Int) - (1 : Int)) < List.length (canL o p per g k) ∧ 15 = 15) ∧ condP (decide (MG.dev (atM (canL o p per g k) (Int.toNat ((↑(List.length (canL o p per g k)) : Int) - (1 : Int)))) = MG.dev (g (Int.toNat (↑k : Int))))) (inR .i64 ((↑(List.length (canL o p per g k)) : Int) - (1 : Int)) ∧ ((0 : Int) ≤ (↑(List.length (canL o p per g k)) : Int) - (1 : Int) ∧ (↑(List.length (canL o p per g k)) : Int) - (1 : Int) ≤ (↑(List.length (canL o p per g k)) : Int)) ∧ (15 ≤ 16777216 ∧ 15 = 15 ∧ 1 ≤ 9223372036854775807) ∧ ((1 ≤ 1 ∧ 15 = 15) ∧ Int.toNat ((↑(List.length (canL o p per g k)) : Int) - (1 : Int)) ≤ List.length (canL o p per g k) ∧ 15 = 15 ∧ 56 = 56 ∧ 15 = 15 ∧ Int.toNat ((↑(List.length (canL o p per g k)) : Int) - (1 : Int)) + 1 ≤ 9223372036854775807 ∧ (Int.toNat ((↑(List.length (canL o p per g k)) : Int) - (1 : Int)) + 1) * TI.bytes (TI.mk (TypeDesc.struct #[Field.mk "Device" (9 : TypeId) 0 false "" "" 0, Field.mk "Sequence" (3 : TypeId) 1 false "" "" 16, Field.mk "Kind" (3 : TypeId) 2 false "" "" 24, Field.mk "Visit" (52 : TypeId) 3 false "" "" 32, Field.mk "Decision" (54 : TypeId) 10 false "" "" 112]) 15 176 (Value.agg #[Value.string (ByteArray.mk #[]), Value.int IntKind.i64 0, Value.int IntKind.i64 0, Value.string (ByteArray.mk #[]), Value.string (ByteArray.mk #[]), Value.int IntKind.i64 0, Value.int IntKind.i64 0, Value.int IntKind.i64 0, Value.int IntKind.i64 0, Value.string (ByteArray.mk #[]), Value.string (ByteArray.mk #[]), Value.string (ByteArray.mk #[]), Value.int IntKind.i64 0, Value.string (ByteArray.mk #[]), Value.int IntKind.i64 0]) true) ≤ 140737488355328) ∧ inR .i64 ((↑k : Int) + (1 : Int)) ∧ ∃ (i' : Nat), (TEq [(1, .str o), (2, .str p), (3, .int .i64 per), (9, .own 0 (Int.toNat ((↑(List.length (canL o p per g k)) : Int) - (1 : Int)) + 1)), (13, .view 15 n (mgRow g)), (14, .int .i64 (↑n : Int)), (15, .int .i64 ((↑k : Int) + (1 : Int)))] [(1, .str o), (2, .str p), (3, .int .i64 per), (9, .own 0 (List.length (canL o p per g i'))), (13, .view 15 n (mgRow g)), (14, .int .i64 (↑n : Int)), (15, .int .i64 (↑i' : Int))] ∧ RowsEq [(0, .row 56 15 (Int.toNat ((↑(List.length (canL o p per g k)) : Int) - (1 : Int)) + 1) (apF (Int.toNat ((↑(List.length (canL o p per g k)) : Int) - (1 : Int))) (mgRow (atM (canL o p per g k))) (chunkA (TI.sz (TI.mk (TypeDesc.struct #[Field.mk "Device" (9 : TypeId) 0 false "" "" 0, Field.mk "Sequence" (3 : TypeId) 1 false "" "" 16, Field.mk "Kind" (3 : TypeId) 2 false "" "" 24, Field.mk "Visit" (52 : TypeId) 3 false "" "" 32, Field.mk "Decision" (54 : TypeId) 10 false "" "" 112]) 15 176 (Value.agg #[Value.string (ByteArray.mk #[]), Value.int IntKind.i64 0, Value.int IntKind.i64 0, Value.string (ByteArray.mk #[]), Value.string (ByteArray.mk #[]), Value.int IntKind.i64 0, Value.int IntKind.i64 0, Value.int IntKind.i64 0, Value.int IntKind.i64 0, Value.string (ByteArray.mk #[]), Value.string (ByteArray.mk #[]), Value.string (ByteArray.mk #[]), Value.int IntKind.i64 0, Value.string (ByteArray.mk #[]), Value.int IntKind.i64 0]) true)) (.str (MG.dev (g (Int.toNat (↑k : Int)))) :: .int .i64 (MG.seq (g (Int.toNat (↑k : Int)))) :: .int .i64 (MG.kind (g (Int.toNat (↑k : Int)))) :: .str (VT.o (MG.v (g (Int.toNat (↑k : Int))))) :: .str (VT.p (MG.v (g (Int.toNat (↑k : Int))))) :: .int .i64 (VT.per (MG.v (g (Int.toNat (↑k : Int))))) :: .int .i64 (VT.day (MG.v (g (Int.toNat (↑k : Int))))) :: .int .i64 (VT.st (MG.v (g (Int.toNat (↑k : Int))))) :: .int .i64 (VT.pr (MG.v (g (Int.toNat (↑k : Int))))) :: .str (VT.rep (MG.v (g (Int.toNat (↑k : Int))))) :: .str (DT.o (MG.d (g (Int.toNat (↑k : Int))))) :: .str (DT.p (MG.d (g (Int.toNat (↑k : Int))))) :: .int .i64 (DT.per (MG.d (g (Int.toNat (↑k : Int))))) :: .str (DT.dev (MG.d (g (Int.toNat (↑k : Int))))) :: .int .i64 (DT.num (MG.d (g (Int.toNat (↑k : Int))))) :: List.append [] (List.flatten (List.replicate (nat_lit 0) [.str ([]), .int .i64 0, .int .i64 0, .str ([]), .str ([]), .int .i64 0, .int .i64 0, .int .i64 0, .int .i64 0, .str ([]), .str ([]), .str ([]), .int .i64 0, .str ([]), .int .i64 0]))))) false)] [(0, .row 56 15 (List.length (canL o p per g i')) (mgRow (atM (canL o p per g i'))) false)]) ∧ P i') ((15 ≤ 16777216 ∧ 15 = 15 ∧ 1 ≤ 9223372036854775807) ∧ ((1 ≤ 1 ∧ 15 = 15) ∧ List.length (canL o p per g k) ≤ List.length (canL o p per g k) ∧ 15 = 15 ∧ 56 = 56 ∧ 15 = 15 ∧ List.length (canL o p per g k) + 1 ≤ 9223372036854775807 ∧ (List.length (canL o p per g k) + 1) * TI.bytes (TI.mk (TypeDesc.struct #[Field.mk "Device" (9 : TypeId) 0 false "" "" 0, Field.mk "Sequence" (3 : TypeId) 1 false "" "" 16, Field.mk "Kind" (3 : TypeId) 2 false "" "" 24, Field.mk "Visit" (52 : TypeId) 3 false "" "" 32, Field.mk "Decision" (54 : TypeId) 10 false "" "" 112]) 15 176 (Value.agg #[Value.string (ByteArray.mk #[]), Value.int IntKind.i64 0, Value.int IntKind.i64 0, Value.string (ByteArray.mk #[]), Value.string (ByteArray.mk #[]), Value.int IntKind.i64 0, Value.int IntKind.i64 0, Value.int IntKind.i64 0, Value.int IntKind.i64 0, Value.string (ByteArray.mk #[]), Value.string (ByteArray.mk #[]), Value.string (ByteArray.mk #[]), Value.int IntKind.i64 0, Value.string (ByteArray.mk #[]), Value.int IntKind.i64 0]) true) ≤ 140737488355328) ∧ inR .i64 ((↑k : Int) + (1 : Int)) ∧ ∃ (i' : Nat), (TEq [(1, .str o), (2, .str p), (3, .int .i64 per), (9, .own 0 (List.length (canL o p per g k) + 1)), (13, .view 15 n (mgRow g)), (14, .int .i64 (↑n : Int)), (15, .int .i64 ((↑k : Int) + (1 : Int)))] [(1, .str o), (2, .str p), (3, .int .i64 per), (9, .own 0 (List.length (canL o p per g i'))), (13, .view 15 n (mgRow g)), (14, .int .i64 (↑n : Int)), (15, .int .i64 (↑i' : Int))] ∧ RowsEq [(0, .row 56 15 (List.length (canL o p per g k) + 1) (apF (List.length (canL o p per g k)) (mgRow (atM (canL o p per g k))) (chunkA (TI.sz (TI.mk (TypeDesc.struct #[Field.mk "Device" (9 : TypeId) 0 false "" "" 0, Field.mk "Sequence" (3 : TypeId) 1 false "" "" 16, Field.mk "Kind" (3 : TypeId) 2 false "" "" 24, Field.mk "Visit" (52 : TypeId) 3 false "" "" 32, Field.mk "Decision" (54 : TypeId) 10 false "" "" 112]) 15 176 (Value.agg #[Value.string (ByteArray.mk #[]), Value.int IntKind.i64 0, Value.int IntKind.i64 0, Value.string (ByteArray.mk #[]), Value.string (ByteArray.mk #[]), Value.int IntKind.i64 0, Value.int IntKind.i64 0, Value.int IntKind.i64 0, Value.int IntKind.i64 0, Value.string (ByteArray.mk #[]), Value.string (ByteArray.mk #[]), Value.string (ByteArray.mk #[]), Value.int IntKind.i64 0, Value.string (ByteArray.mk #[]), Value.int IntKind.i64 0]) true)) (.str (MG.dev (g (Int.toNat (↑k : Int)))) :: .int .i64 (MG.seq (g (Int.toNat (↑k : Int)))) :: .int .i64 (MG.kind (g (Int.toNat (↑k : Int)))) :: .str (VT.o (MG.v (g (Int.toNat (↑k : Int))))) :: .str (VT.p (MG.v (g (Int.toNat (↑k : Int))))) :: .int .i64 (VT.per (MG.v (g (Int.toNat (↑k : Int))))) :: .int .i64 (VT.day (MG.v (g (Int.toNat (↑k : Int))))) :: .int .i64 (VT.st (MG.v (g (Int.toNat (↑k : Int))))) :: .int .i64 (VT.pr (MG.v (g (Int.toNat (↑k : Int))))) :: .str (VT.rep (MG.v (g (Int.toNat (↑k : Int))))) :: .str (DT.o (MG.d (g (Int.toNat (↑k : Int))))) :: .str (DT.p (MG.d (g (Int.toNat (↑k : Int))))) :: .int .i64 (DT.per (MG.d (g (Int.toNat (↑k : Int))))) :: .str (DT.dev (MG.d (g (Int.toNat (↑k : Int))))) :: .int .i64 (DT.num (MG.d (g (Int.toNat (↑k : Int))))) :: List.append [] (List.flatten (List.replicate (nat_lit 0) [.str ([]), .int .i64 0, .int .i64 0, .str ([]), .str ([]), .int .i64 0, .int .i64 0, .int .i64 0, .int .i64 0, .str ([]), .str ([]), .str ([]), .int .i64 0, .str ([]), .int .i64 0]))))) false)] [(0, .row 56 15 (List.length (canL o p per g i')) (mgRow (atM (canL o p per g i'))) false)]) ∧ P i')) ((15 ≤ 16777216 ∧ 15 = 15 ∧ 1 ≤ 9223372036854775807) ∧ ((1 ≤ 1 ∧ 15 = 15) ∧ List.length (canL o p per g k) ≤ List.length (canL o p per g k) ∧ 15 = 15 ∧ 56 = 56 ∧ 15 = 15 ∧ List.length (canL o p per g k) + 1 ≤ 9223372036854775807 ∧ (List.length (canL o p per g k) + 1) * TI.bytes (TI.mk (TypeDesc.struct #[Field.mk "Device" (9 : TypeId) 0 false "" "" 0, Field.mk "Sequence" (3 : TypeId) 1 false "" "" 16, Field.mk "Kind" (3 : TypeId) 2 false "" "" 24, Field.mk "Visit" (52 : TypeId) 3 false "" "" 32, Field.mk "Decision" (54 : TypeId) 10 false "" "" 112]) 15 176 (Value.agg #[Value.string (ByteArray.mk #[]), Value.int IntKind.i64 0, Value.int IntKind.i64 0, Value.string (ByteArray.mk #[]), Value.string (ByteArray.mk #[]), Value.int IntKind.i64 0, Value.int IntKind.i64 0, Value.int IntKind.i64 0, Value.int IntKind.i64 0, Value.string (ByteArray.mk #[]), Value.string (ByteArray.mk #[]), Value.string (ByteArray.mk #[]), Value.int IntKind.i64 0, Value.string (ByteArray.mk #[]), Value.int IntKind.i64 0]) true) ≤ 140737488355328) ∧ inR .i64 ((↑k : Int) + (1 : Int)) ∧ ∃ (i' : Nat), (TEq [(1, .str o), (2, .str p), (3, .int .i64 per), (9, .own 0 (List.length (canL o p per g k) + 1)), (13, .view 15 n (mgRow g)), (14, .int .i64 (↑n : Int)), (15, .int .i64 ((↑k : Int) + (1 : Int)))] [(1, .str o), (2, .str p), (3, .int .i64 per), (9, .own 0 (List.length (canL o p per g i'))), (13, .view 15 n (mgRow g)), (14, .int .i64 (↑n : Int)), (15, .int .i64 (↑i' : Int))] ∧ RowsEq [(0, .row 56 15 (List.length (canL o p per g k) + 1) (apF (List.length (canL o p per g k)) (mgRow (atM (canL o p per g k))) (chunkA (TI.sz (TI.mk (TypeDesc.struct #[Field.mk "Device" (9 : TypeId) 0 false "" "" 0, Field.mk "Sequence" (3 : TypeId) 1 false "" "" 16, Field.mk "Kind" (3 : TypeId) 2 false "" "" 24, Field.mk "Visit" (52 : TypeId) 3 false "" "" 32, Field.mk "Decision" (54 : TypeId) 10 false "" "" 112]) 15 176 (Value.agg #[Value.string (ByteArray.mk #[]), Value.int IntKind.i64 0, Value.int IntKind.i64 0, Value.string (ByteArray.mk #[]), Value.string (ByteArray.mk #[]), Value.int IntKind.i64 0, Value.int IntKind.i64 0, Value.int IntKind.i64 0, Value.int IntKind.i64 0, Value.string (ByteArray.mk #[]), Value.string (ByteArray.mk #[]), Value.string (ByteArray.mk #[]), Value.int IntKind.i64 0, Value.string (ByteArray.mk #[]), Value.int IntKind.i64 0]) true)) (.str (MG.dev (g (Int.toNat (↑k : Int)))) :: .int .i64 (MG.seq (g (Int.toNat (↑k : Int)))) :: .int .i64 (MG.kind (g (Int.toNat (↑k : Int)))) :: .str (VT.o (MG.v (g (Int.toNat (↑k : Int))))) :: .str (VT.p (MG.v (g (Int.toNat (↑k : Int))))) :: .int .i64 (VT.per (MG.v (g (Int.toNat (↑k : Int))))) :: .int .i64 (VT.day (MG.v (g (Int.toNat (↑k : Int))))) :: .int .i64 (VT.st (MG.v (g (Int.toNat (↑k : Int))))) :: .int .i64 (VT.pr (MG.v (g (Int.toNat (↑k : Int))))) :: .str (VT.rep (MG.v (g (Int.toNat (↑k : Int))))) :: .str (DT.o (MG.d (g (Int.toNat (↑k : Int))))) :: .str (DT.p (MG.d (g (Int.toNat (↑k : Int))))) :: .int .i64 (DT.per (MG.d (g (Int.toNat (↑k : Int))))) :: .str (DT.dev (MG.d (g (Int.toNat (↑k : Int))))) :: .int .i64 (DT.num (MG.d (g (Int.toNat (↑k : Int))))) :: List.append [] (List.flatten (List.replicate (nat_lit 0) [.str ([]), .int .i64 0, .int .i64 0, .str ([]), .str ([]), .int .i64 0, .int .i64 0, .int .i64 0, .int .i64 0, .str ([]), .str ([]), .str ([]), .int .i64 0, .str ([]), .int .i64 0]))))) false)] [(0, .row 56 15 (List.length (canL o p per g i')) (mgRow (atM (canL o p per g i'))) false)]) ∧ P i')))))) ((∀ (i : Nat), i < List.length (canL o p per g k) → true = true) ∧ ∃ (O' : List (Nat × AObj)), RowsEq [(0, .row 56 15 (List.length (canL o p per g k)) (mgRow (atM (canL o p per g k))) false)] O' ∧ R (.exit 0) (St.mk [(9, .own 0 (List.length (canL o p per g k)))] O' 1 []))) := by kernel_rfl

theorem snocM {L : List MG} {m : MG} {t : Nat} (ht : t ≤ L.length) (ch : Nat → List AV) (hch : ch 0 = mgC m) (j : Nat) (hj : j < t + 1) : apF t (mgRow (atM L)) ch j = mgRow (atM (L.take t ++ [m])) j := by
  have hl : (L.take t).length = t := by simp [ht]
  unfold apF
  by_cases h : j < t
  · rw [if_pos h]
    have e : atM (L.take t ++ [m]) j = atM L j := by
      unfold atM
      rw [List.getD_eq_getElem?_getD, List.getD_eq_getElem?_getD, List.getElem?_append_left (by omega), List.getElem?_take, if_pos h]
    unfold mgRow
    rw [e]
  · have : j = t := by omega
    subst this
    rw [if_neg h, Nat.sub_self, hch]
    have e : atM (L.take j ++ [m]) j = m := by
      unfold atM
      rw [List.getD_eq_getElem?_getD, List.getElem?_append_right (by omega), hl, Nat.sub_self]; rfl
    unfold mgRow
    rw [e]; rfl
theorem stpC_len (L : List MG) (m : MG) : (stpC L m).length ≤ L.length + 1 := by
  unfold stpC
  cases decide (0 < L.length) && decide ((atM L (L.length - 1)).dev = m.dev) with
  | true => simp
  | false => simp
theorem canL_len (o p : List UInt8) (per : Int) (g : Nat → MG) : ∀ k, (canL o p per g k).length ≤ k
  | 0 => Nat.le_refl _
  | k + 1 => by
    have ih := canL_len o p per g k
    rw [canL]
    cases selF o p per (g k) with
    | true => have := stpC_len (canL o p per g k) (g k); show (stpC _ _).length ≤ _; omega
    | false => show (canL o p per g k).length ≤ _; omega
theorem cnd_loop (hP : C.P = Tryz.prog) (o p : List UInt8) (per : Int) (g : Nat → MG) (n : Nat) : LoopOK C 0 68 (loopC Tryz.f78 3) (L_cnd o p per g n) := by
  have _ : C.Loose := inferInstance
  rintro st Q ⟨h0, hn, hQ⟩
  refine AWP.ownNil 9 56 15 ?_
  refine LoopOK.mk (prg hP) [] 0 .nil [1, 2, 3, 9, 13, 14, 15] [9] [] (S_cnd o p per g n) (fun k => k ≤ n) (fun k => n - k) 0 (Nat.zero_le _) h0 (fun k hk => ?_) (fun i => ⟨fun _ _ => rfl, trivial⟩)
  have hlen := canL_len o p per g k
  rw [nf_cd2_round, Int.toNat_natCast]
  have skip : selF o p per (g k) = false → canL o p per g (k + 1) = canL o p per g k := fun h => by rw [canL, h]; rfl
  have go : selF o p per (g k) = true → canL o p per g (k + 1) = stpC (canL o p per g k) (g k) := fun h => by rw [canL, h]; rfl
  generalize hC : canL o p per g k = L at *
  have no : k < n → selF o p per (g k) = false → inR .i64 ((k : Int) + 1) ∧ ∃ i' : Nat, (TEq [(1, .str o), (2, .str p), (3, .int .i64 per), (9, .own 0 L.length), (13, .view 15 n (mgRow g)), (14, .int .i64 (n : Int)), (15, .int .i64 ((k : Int) + 1))] [(1, .str o), (2, .str p), (3, .int .i64 per), (9, .own 0 (canL o p per g i').length), (13, .view 15 n (mgRow g)), (14, .int .i64 (n : Int)), (15, .int .i64 (i' : Int))] ∧
      RowsEq [(0, .row 56 15 L.length (mgRow (atM L)) false)] [(0, .row 56 15 (canL o p per g i').length (mgRow (atM (canL o p per g i'))) false)]) ∧ (i' ≤ n ∧ n - i' < n - k) := fun hk' h => by
    refine ⟨by simp only [inR]; omega, k + 1, ?_, by omega, by omega⟩
    rw [skip h]
    exact ⟨rfl, ⟨rfl, rfl, rfl, rfl, rfl, fun _ _ => rfl⟩, trivial⟩
  refine condP_dec (fun h1 => ⟨⟨by omega, by omega, rfl⟩, condP_ndec (fun q => no (by omega) (by unfold selF; rw [decide_eq_false q]; rfl)) (fun q1 => condP_ndec (fun q => no (by omega) (by unfold selF; rw [decide_eq_true q1, decide_eq_false q]; rfl)) (fun q2 => condP_ndec (fun q => no (by omega) (by unfold selF; rw [decide_eq_true q1, decide_eq_true q2, decide_eq_false q]; rfl)) (fun q3 => condP_ndec (fun q => no (by omega) (by unfold selF; rw [decide_eq_true q1, decide_eq_true q2, decide_eq_true q3, decide_eq_false q]; rfl)) (fun q4 => ?_))))⟩) (fun h1 => ?_)
  · have hg := go (by unfold selF; rw [decide_eq_true q1, decide_eq_true q2, decide_eq_true q3, decide_eq_true q4]; rfl)
    have app : canL o p per g (k + 1) = L ++ [g k] → ∀ ch : Nat → List AV, ch 0 = mgC (g k) → ∃ i' : Nat, (TEq [(1, .str o), (2, .str p), (3, .int .i64 per), (9, .own 0 (L.length + 1)), (13, .view 15 n (mgRow g)), (14, .int .i64 (n : Int)), (15, .int .i64 ((k : Int) + 1))] [(1, .str o), (2, .str p), (3, .int .i64 per), (9, .own 0 (canL o p per g i').length), (13, .view 15 n (mgRow g)), (14, .int .i64 (n : Int)), (15, .int .i64 (i' : Int))] ∧
        RowsEq [(0, .row 56 15 (L.length + 1) (apF L.length (mgRow (atM L)) ch) false)] [(0, .row 56 15 (canL o p per g i').length (mgRow (atM (canL o p per g i'))) false)]) ∧ (i' ≤ n ∧ n - i' < n - k) := fun e ch hch => by
      refine ⟨k + 1, ?_, by omega, by omega⟩
      rw [e, List.length_append]
      refine ⟨rfl, ⟨rfl, rfl, rfl, rfl, rfl, fun j hj => ?_⟩, trivial⟩
      have := snocM (Nat.le_refl L.length) ch hch j hj
      rw [List.take_length] at this
      exact this
    refine condP_dec (fun r1 => ?_) (fun r1 => ?_)
    · have e1 : ((L.length : Int) - 1).toNat = L.length - 1 := by omega
      rw [e1]
      refine ⟨by simp only [inR]; omega, ⟨by omega, by omega⟩, ⟨by omega, rfl⟩, condP_dec (fun r2 => ?_) (fun r2 => ?_)⟩
      · have e : canL o p per g (k + 1) = L.take (L.length - 1) ++ [g k] := by rw [hg, stpC, decide_eq_true (show 0 < L.length by omega), decide_eq_true r2]; rfl
        have hl : (L.take (L.length - 1)).length = L.length - 1 := by simp
        refine ⟨by simp only [inR]; omega, ⟨by omega, by omega⟩, ⟨by omega, rfl, by omega⟩, ⟨⟨Nat.le_refl _, rfl⟩, by omega, rfl, rfl, rfl, by omega, ?_⟩, by simp only [inR]; omega, k + 1, ?_, by omega, by omega⟩
        · show (L.length - 1 + 1) * 176 ≤ _
          omega
        · rw [e, List.length_append, hl]
          exact ⟨rfl, ⟨rfl, rfl, rfl, rfl, rfl, fun j hj => snocM (by omega) _ rfl j hj⟩, trivial⟩
      · have e : canL o p per g (k + 1) = L ++ [g k] := by rw [hg, stpC, decide_eq_false r2, Bool.and_false]; rfl
        refine ⟨⟨by omega, rfl, by omega⟩, ⟨⟨Nat.le_refl _, rfl⟩, Nat.le_refl _, rfl, rfl, rfl, by omega, ?_⟩, by simp only [inR]; omega, app e _ rfl⟩
        show (L.length + 1) * 176 ≤ _
        omega
    · have e : canL o p per g (k + 1) = L ++ [g k] := by rw [hg, stpC, decide_eq_false (show ¬ 0 < L.length by omega)]; rfl
      refine ⟨⟨by omega, rfl, by omega⟩, ⟨⟨Nat.le_refl _, rfl⟩, Nat.le_refl _, rfl, rfl, rfl, by omega, ?_⟩, by simp only [inR]; omega, app e _ rfl⟩
      show (L.length + 1) * 176 ≤ _
      omega
  · have : k = n := by omega
    subst this
    rw [hC] at hQ
    exact ⟨fun _ _ => rfl, _, rowsEqR _, hQ⟩
theorem cand_ok (hP : C.P = Tryz.prog) : SpecOK C 78 S_cand := by
  rintro args objs U Os vc h hvc
  unfold S_cand at h
  split at h <;> simp only [Option.some.injEq, Prod.mk.injEq, reduceCtorEq] at h
  rename_i n f o p per
  obtain ⟨rfl, rfl, rfl⟩ := h
  obtain ⟨hn, hf⟩ := hvc
  generalize mgOf f = g at *
  subst hf
  refine ACalls.frzO 0 ?_
  refine RSpecOK.wpL (prg hP) [] [(3, L_cnd o p per g n)] 0 .nil (hP ▸ Tryz.func78) rfl rfl rfl [(loopC Tryz.f78 3, L_cnd o p per g n)] (by kernel_rfl) ⟨cnd_loop hP o p per g n, trivial⟩ ?_
  rw [nf_cand]
  generalize canL o p per g n = L at *
  refine ⟨⟨rfl, ⟨rfl, rfl, rfl, rfl, rfl, fun i hi => absurd hi (Nat.not_lt_zero i)⟩, trivial⟩, hn, fun _ _ => rfl, _, rowsEqR _, fun _ _ => rfl, ?_⟩
  have hb : Nat.ble L.length L.length = true := Nat.ble_eq_true_of_le (Nat.le_refl _)
  constructor
  · simp [frzC, frzA, frz, hb]
  · rfl
end Go.Eng
