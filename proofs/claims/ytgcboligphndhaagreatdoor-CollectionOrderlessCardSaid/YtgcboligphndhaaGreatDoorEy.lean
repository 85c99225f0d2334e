/- The laws of messages: the loops' states of list and turned. -/
import Derived.Test.YtgcboligphndhaaGreatDoorEt
import Derived.Test.YtgcboligphndhaaGreatDoorEw
import Derived.Test.YtgcboligphndhaaGreatDoorEx
import Derived.Test.YtgcboligphndhaaGreatDoorEs
namespace Go.Eng
open Go.Proofs Go.RowKit
variable {C : Ctx} [C.Loose]
set_option maxRecDepth 20000
theorem nf_sameK (g h : Nat → List UInt8 × Int) (n m : Nat) (R : AV → List (Nat × AObj) → Prop) : wpFn te [] [(4, L_sk g h n)] 0 Tryz.f17 [.view 2 n (mkRow g), .view 2 m (mkRow h)] [] R = (condP (!decide ((↑n : Int) = (↑m : Int))) (R (.bool false) []) (some (St.mk [(0, .view 2 n (mkRow g)), (1, .view 2 m (mkRow h)), (12, .int .i64 (↑n : Int)), (13, .int .i64 0)] [] 0 []) = some (St.mk [(0, .view 2 n (mkRow g)), (1, .view 2 n (mkRow h)), (12, .int .i64 (↑n : Int)), (13, .int .i64 (↑0 : Int))] [] 0 []) ∧ n ≤ 100000000 ∧ condP (eqKs g h n) (R (.bool true) []) (R (.bool false) []))) := by kernel_rfl
theorem nf_sk_round (g h : Nat → List UInt8 × Int) (n k : Nat) (P : Nat → Prop) (R : Exit → St → Prop) : roundP ⟨te, [], [], 0, 26, 0⟩ (loopB Tryz.f17 4) [0, 1, 12, 13] [] [4] (S_sk g h n) P R (S_sk g h n k) = (letI z0 := (Int.toNat (↑k : Int)); condP (decide ((↑k : Int) < (↑n : Int))) (((0 : Int) ≤ (↑k : Int) ∧ (↑k : Int) < (↑n : Int) ∧ 2 = 2) ∧ ((0 : Int) ≤ (↑k : Int) ∧ (↑k : Int) < (↑n : Int) ∧ 2 = 2) ∧ condP (!(decide (Prod.fst (g z0) = Prod.fst (h z0)) && decide (Prod.snd (g z0) = Prod.snd (h z0)))) (R .ret (St.mk [(4, .bool false)] [] 0 [])) (inR .i64 ((↑k : Int) + (1 : Int)) ∧ ∃ (i' : Nat), some (St.mk [(0, .view 2 n (mkRow g)), (1, .view 2 n (mkRow h)), (12, .int .i64 (↑n : Int)), (13, .int .i64 ((↑k : Int) + (1 : Int)))] [] 0 []) = some (St.mk [(0, .view 2 n (mkRow g)), (1, .view 2 n (mkRow h)), (12, .int .i64 (↑n : Int)), (13, .int .i64 (↑i' : Int))] [] 0 []) ∧ P i')) (R (.exit 0) (St.mk [] [] 0 []))) := by kernel_rfl
theorem nf_cloned (g : Nat → MG) (n : Nat) (R : AV → List (Nat × AObj) → Prop) : wpFn te [(61, .det S_mrgN), (62, .det S_counts)] [(5, L_cn (mrgL g n noM 0))] 0 Tryz.f18 [.view 15 n (mgRow g)] [] R = (letI z1 := List.length (mrgL g n noM 0); letI z2 := clnP (mrgL g n noM 0) z1; letI z0 := mrgL (mgOf (mgRow g)) n noM 0; (n ≤ 100000 ∧ mgRow g = mgRow (mgOf (mgRow g)) ∧ ∀ (i : Nat), i < n → MG.Sm (mgOf (mgRow g) i)) ∧ (∀ (i : Nat), i < List.length z0 → true = true) ∧ (∀ (i : Nat), i < List.length z0 → true = true) ∧ (40 = 40 ∧ false = false ∧ List.length z0 = List.length z0 ∧ List.length z0 ≤ 1000000 ∧ mgRow (atM z0) = mgRow (mgOf (mgRow (atM z0)))) ∧ (∀ (i : Nat), i < List.length z0 → true = true) ∧ (TEq [(4, .map 0), (5, .own 1 0), (13, .own 2 (List.length z0)), (14, .int .i64 (↑(List.length z0) : Int)), (15, .int .i64 0)] [(4, .map 0), (5, .own 1 0), (13, .own 2 z1), (14, .int .i64 (↑z1 : Int)), (15, .int .i64 (↑0 : Int))] ∧ RowsEq [(0, .amap (List.map (fun (p : AV × AV) => (AV.rn (ren 0 [(16, 0), (32, 1), (0, 2)]) (Prod.fst p), AV.rn (ren 0 [(16, 0), (32, 1), (0, 2)]) (Prod.snd p))) (List.map (fun (p : AV × AV) => (AV.rn (sig [0] 16) (Prod.fst p), AV.rn (sig [0] 16) (Prod.snd p))) (entM (cntL (mgOf (mgRow (atM z0))) (List.length z0)))))), (1, .row 83 2 0 (fun (_x : Nat) => []) false), (2, .row 40 15 (List.length z0) (mgRow (atM z0)) false)] [(0, .amap (entM (cntL (atM (mrgL g n noM 0)) z1))), (1, .row 83 2 0 (mkRow (atK (clnP (mrgL g n noM 0) 0))) false), (2, .row 40 15 z1 (mgRow (atM (mrgL g n noM 0))) false)]) ∧ List.length (mrgL g n noM 0) ≤ 100000 ∧ (∀ (i : Nat), i < List.length z2 → true = true) ∧ ∃ (O' : List (Nat × AObj)), RowsEq [(0, .row 83 2 (List.length z2) (mkRow (atK z2)) false)] O' ∧ R (.own 0 (List.length z2)) O') := by kernel_rfl
theorem nf_cn_round (M : List MG) (k : Nat) (P : Nat → Prop) (R : Exit → St → Prop) : roundP ⟨te, [(63, .det S_mark)], [], 0, 46, 0⟩ (loopB Tryz.f18 5) [4, 5, 13, 14, 15] [5] [] (S_cn M) P R (S_cn M k) = (letI z10 := mkRow (atK (clnP M k)); letI z8 := List.length (clnP M k) + 1; letI z7 := (↑(List.length M) : Int); letI z6 := (atM M (Int.toNat (↑k : Int))); letI z5 := ([(4, .map 0), (5, .own 1 z8), (13, .own 2 (List.length M)), (14, .int .i64 z7), (15, .int .i64 ((↑k : Int) + (1 : Int)))] : List (Nat × AV)); letI z4 := entM (cntL (atM M) (List.length M)); letI z3 := List.length (clnP M k); letI z9 := (atK (clnP M k) (Int.toNat ((↑z3 : Int) - (1 : Int)))); letI z2 := (mget z4 (.agg [.str (MG.dev z6), .int .i64 (MG.seq z6)])); letI z1 := ([(0, .amap (List.map (fun (p : AV × AV) => (AV.rn (ren 0 [(0, 0), (328, 1), (2, 2)]) (Prod.fst p), AV.rn (ren 0 [(0, 0), (328, 1), (2, 2)]) (Prod.snd p))) z4)), (1, .row 83 2 z8 (apF z3 z10 (chunkA (TI.sz shrtE2) (.str (MG.dev z6) :: .int .i64 (MG.seq z6) :: List.append [] (List.flatten (List.replicate (nat_lit 0) [.str ([]), .int .i64 0]))))) false), (2, .row 40 15 (List.length M) (mgRow (atM M)) false)] : List (Nat × AObj)); letI z0 := (inR .i64 ((↑k : Int) + (1 : Int)) ∧ ∃ (i' : Nat), (TEq [(4, .map 0), (5, .own 1 z3), (13, .own 2 (List.length M)), (14, .int .i64 z7), (15, .int .i64 ((↑k : Int) + (1 : Int)))] [(4, .map 0), (5, .own 1 (List.length (clnP M i'))), (13, .own 2 (List.length M)), (14, .int .i64 z7), (15, .int .i64 (↑i' : Int))] ∧ RowsEq [(0, .amap (List.map (fun (p : AV × AV) => (AV.rn (ren 0 [(0, 0), (1, 1), (2, 2)]) (Prod.fst p), AV.rn (ren 0 [(0, 0), (1, 1), (2, 2)]) (Prod.snd p))) z4)), (1, .row 83 2 z3 z10 false), (2, .row 40 15 (List.length M) (mgRow (atM M)) false)] [(0, .amap z4), (1, .row 83 2 (List.length (clnP M i')) (mkRow (atK (clnP M i'))) false), (2, .row 40 15 (List.length M) (mgRow (atM M)) false)]) ∧ P i'); condP (decide ((↑k : Int) < z7)) (((0 : Int) ≤ (↑k : Int) ∧ (↑k : Int) < z7) ∧ (Int.toNat (↑k : Int) < List.length M ∧ 15 = 15) ∧ True ∧ (KeysA (Env.te (Env.mk te [(63, CSpec.det S_mark)] [] 0 46 0)) 83 z4 ∧ .int .i64 (intOf (Option.getD z2 (.int .i64 0))) = Option.getD z2 (.int .i64 0)) ∧ condP (decide ((1 : Int) < intOf (Option.getD z2 (.int .i64 0)))) (condP (decide ((↑z3 : Int) = (0 : Int))) ((2 ≤ 16777216 ∧ 2 = 2 ∧ 1 ≤ 9223372036854775807) ∧ ((1 ≤ 1 ∧ 2 = 2) ∧ List.length (clnP M k) ≤ List.length (clnP M k) ∧ 2 = 2 ∧ 83 = 83 ∧ 2 = 2 ∧ List.length (clnP M k) + 1 ≤ 9223372036854775807 ∧ z8 * TI.bytes shrtE2 ≤ 140737488355328) ∧ inR .i64 ((↑k : Int) + (1 : Int)) ∧ ∃ (i' : Nat), (TEq z5 [(4, .map 0), (5, .own 1 (List.length (clnP M i'))), (13, .own 2 (List.length M)), (14, .int .i64 z7), (15, .int .i64 (↑i' : Int))] ∧ RowsEq z1 [(0, .amap z4), (1, .row 83 2 (List.length (clnP M i')) (mkRow (atK (clnP M i'))) false), (2, .row 40 15 (List.length M) (mgRow (atM M)) false)]) ∧ P i') (inR .i64 ((↑z3 : Int) - (1 : Int)) ∧ ((0 : Int) ≤ (↑z3 : Int) - (1 : Int) ∧ (↑z3 : Int) - (1 : Int) < (↑z3 : Int)) ∧ (Int.toNat ((↑z3 : Int) - (1 : Int)) < List.length (clnP M k) ∧ 2 = 2) ∧ condP (!(decide (Prod.fst z9 = MG.dev z6) && decide (Prod.snd z9 = MG.seq z6))) ((2 ≤ 16777216 ∧ 2 = 2 ∧ 1 ≤ 9223372036854775807) ∧ ((1 ≤ 1 ∧ 2 = 2) ∧ List.length (clnP M k) ≤ List.length (clnP M k) ∧ 2 = 2 ∧ 83 = 83 ∧ 2 = 2 ∧ List.length (clnP M k) + 1 ≤ 9223372036854775807 ∧ z8 * TI.bytes shrtE2 ≤ 140737488355328) ∧ inR .i64 ((↑k : Int) + (1 : Int)) ∧ ∃ (i' : Nat), (TEq z5 [(4, .map 0), (5, .own 1 (List.length (clnP M i'))), (13, .own 2 (List.length M)), (14, .int .i64 z7), (15, .int .i64 (↑i' : Int))] ∧ RowsEq z1 [(0, .amap z4), (1, .row 83 2 (List.length (clnP M i')) (mkRow (atK (clnP M i'))) false), (2, .row 40 15 (List.length M) (mgRow (atM M)) false)]) ∧ P i') z0)) z0) ((∀ (i : Nat), i < List.length (clnP M k) → true = true) ∧ ∃ (O' : List (Nat × AObj)), RowsEq [(0, .row 83 2 z3 z10 false)] O' ∧ R (.exit 0) (St.mk [(5, .own 0 z3)] O' 1 []))) := by kernel_rfl
theorem nf_clonR (g : Nat → MG) (n : Nat) (R : AV → List (Nat × AObj) → Prop) : wpFn te [(64, .det S_mrgVN)] [(4, L_cr11 (mrgL g n noM 0))] 0 Tryz.f19 [.view 15 n (mgRow g)] [] R = (letI z2 := List.length (mrgL g n noM 0); letI z1 := mrgL (mgOf (mgRow g)) n noM 0; letI z0 := clnR (mrgL g n noM 0) z2; (n ≤ 100000 ∧ mgRow g = mgRow (mgOf (mgRow g)) ∧ ∀ (i : Nat), i < n → MG.Sm (mgOf (mgRow g) i)) ∧ (TEq [(3, .view 15 (List.length z1) (mgRow (atM z1))), (4, .own 0 0), (9, .int .i64 (↑(List.length z1) : Int)), (10, .int .i64 0)] [(3, .view 15 z2 (mgRow (atM (mrgL g n noM 0)))), (4, .own 0 0), (9, .int .i64 (↑z2 : Int)), (10, .int .i64 (↑0 : Int))] ∧ RowsEq [(0, .row 83 2 0 (fun (_x : Nat) => []) false)] [(0, .row 83 2 0 (mkRow (atK (clnR (mrgL g n noM 0) 0))) false)]) ∧ List.length (mrgL g n noM 0) ≤ 100000 ∧ (∀ (i : Nat), i < List.length z0 → true = true) ∧ ∃ (O' : List (Nat × AObj)), RowsEq [(0, .row 83 2 (List.length z0) (mkRow (atK z0)) false)] O' ∧ R (.own 0 (List.length z0)) O') := by kernel_rfl
theorem nf_cr11_round (M : List MG) (k : Nat) (P : Nat → Prop) (R : Exit → St → Prop) : roundP ⟨te, [(65, .det S_sameR)], [], 0, 60, 0⟩ (loopB Tryz.f19 4) [3, 4, 9, 10] [4] [] (S_cr11 M) P R (S_cr11 M k) = (letI z9 := (atM M (Int.toNat ((↑k : Int) - (2 : Int)))); letI z8 := (atM M (Int.toNat ((↑k : Int) - (1 : Int)))); letI z6 := List.length (clnR M k) + 1; letI z5 := List.length (clnR M k); letI z7 := ([(0, .row 83 2 z5 (mkRow (atK (clnR M k))) false)] : List (Nat × AObj)); letI z4 := (atM M (Int.toNat (↑k : Int))); letI z2 := ([(0, .row 83 2 z6 (apF z5 (mkRow (atK (clnR M k))) (chunkA (TI.sz shrtE2) (.str (MG.dev z4) :: .int .i64 (MG.seq z4) :: List.append [] (List.flatten (List.replicate (nat_lit 0) [.str ([]), .int .i64 0]))))) false)] : List (Nat × AObj)); letI z1 := (↑(List.length M) : Int); letI z3 := ([(3, .view 15 (List.length M) (mgRow (atM M))), (4, .own 0 z6), (9, .int .i64 z1), (10, .int .i64 ((↑k : Int) + (1 : Int)))] : List (Nat × AV)); letI z0 := (inR .i64 ((↑k : Int) + (1 : Int)) ∧ ∃ (i' : Nat), (TEq [(3, .view 15 (List.length M) (mgRow (atM M))), (4, .own 0 z5), (9, .int .i64 z1), (10, .int .i64 ((↑k : Int) + (1 : Int)))] [(3, .view 15 (List.length M) (mgRow (atM M))), (4, .own 0 (List.length (clnR M i'))), (9, .int .i64 z1), (10, .int .i64 (↑i' : Int))] ∧ RowsEq z7 [(0, .row 83 2 (List.length (clnR M i')) (mkRow (atK (clnR M i'))) false)]) ∧ P i'); condP (decide ((↑k : Int) < z1)) (condP (decide ((0 : Int) < (↑k : Int))) (inR .i64 ((↑k : Int) - (1 : Int)) ∧ ((0 : Int) ≤ (↑k : Int) - (1 : Int) ∧ (↑k : Int) - (1 : Int) < z1 ∧ 15 = 15) ∧ ((0 : Int) ≤ (↑k : Int) ∧ (↑k : Int) < z1 ∧ 15 = 15) ∧ True ∧ condP (decide (MG.dev z8 = MG.dev z4) && decide (MG.seq z8 = MG.seq z4)) (condP (decide ((↑k : Int) = (1 : Int))) (((0 : Int) ≤ (↑k : Int) ∧ (↑k : Int) < z1 ∧ 15 = 15) ∧ ((0 : Int) ≤ (↑k : Int) ∧ (↑k : Int) < z1 ∧ 15 = 15) ∧ (2 ≤ 16777216 ∧ 2 = 2 ∧ 1 ≤ 9223372036854775807) ∧ ((1 ≤ 1 ∧ 2 = 2) ∧ List.length (clnR M k) ≤ List.length (clnR M k) ∧ 2 = 2 ∧ 83 = 83 ∧ 2 = 2 ∧ List.length (clnR M k) + 1 ≤ 9223372036854775807 ∧ z6 * TI.bytes shrtE2 ≤ 140737488355328) ∧ inR .i64 ((↑k : Int) + (1 : Int)) ∧ ∃ (i' : Nat), (TEq z3 [(3, .view 15 (List.length M) (mgRow (atM M))), (4, .own 0 (List.length (clnR M i'))), (9, .int .i64 z1), (10, .int .i64 (↑i' : Int))] ∧ RowsEq z2 [(0, .row 83 2 (List.length (clnR M i')) (mkRow (atK (clnR M i'))) false)]) ∧ P i') (inR .i64 ((↑k : Int) - (2 : Int)) ∧ ((0 : Int) ≤ (↑k : Int) - (2 : Int) ∧ (↑k : Int) - (2 : Int) < z1 ∧ 15 = 15) ∧ ((0 : Int) ≤ (↑k : Int) ∧ (↑k : Int) < z1 ∧ 15 = 15) ∧ True ∧ condP (!(decide (MG.dev z9 = MG.dev z4) && decide (MG.seq z9 = MG.seq z4))) (((0 : Int) ≤ (↑k : Int) ∧ (↑k : Int) < z1 ∧ 15 = 15) ∧ ((0 : Int) ≤ (↑k : Int) ∧ (↑k : Int) < z1 ∧ 15 = 15) ∧ (2 ≤ 16777216 ∧ 2 = 2 ∧ 1 ≤ 9223372036854775807) ∧ ((1 ≤ 1 ∧ 2 = 2) ∧ List.length (clnR M k) ≤ List.length (clnR M k) ∧ 2 = 2 ∧ 83 = 83 ∧ 2 = 2 ∧ List.length (clnR M k) + 1 ≤ 9223372036854775807 ∧ z6 * TI.bytes shrtE2 ≤ 140737488355328) ∧ inR .i64 ((↑k : Int) + (1 : Int)) ∧ ∃ (i' : Nat), (TEq z3 [(3, .view 15 (List.length M) (mgRow (atM M))), (4, .own 0 (List.length (clnR M i'))), (9, .int .i64 z1), (10, .int .i64 (↑i' : Int))] ∧ RowsEq z2 [(0, .row 83 2 (List.length (clnR M i')) (mkRow (atK (clnR M i'))) false)]) ∧ P i') z0)) z0) z0) ((∀ (i : Nat), i < List.length (clnR M k) → true = true) ∧ ∃ (O' : List (Nat × AObj)), RowsEq z7 O' ∧ R (.exit 0) (St.mk [(4, .own 0 z5)] O' 1 []))) := by kernel_rfl
theorem nf_gapsR (g : Nat → MG) (n : Nat) (R : AV → List (Nat × AObj) → Prop) : wpFn te [(64, .det S_mrgVN)] [(5, L_gq (mrgL g n noM 0))] 0 Tryz.f21 [.view 15 n (mgRow g)] [] R = (letI z3 := gpF (mrgL g n noM 0) 0; letI z2 := List.length (mrgL g n noM 0); letI z1 := mrgL (mgOf (mgRow g)) n noM 0; letI z0 := GS.out (gpF (mrgL g n noM 0) z2); (n ≤ 100000 ∧ mgRow g = mgRow (mgOf (mgRow g)) ∧ ∀ (i : Nat), i < n → MG.Sm (mgOf (mgRow g) i)) ∧ (TEq [(3, .own 0 0), (4, .int .i64 1), (5, .int .i64 0), (6, .view 15 (List.length z1) (mgRow (atM z1))), (11, .view 15 (List.length z1) (mgRow (atM z1))), (12, .int .i64 (↑(List.length z1) : Int)), (13, .int .i64 0)] [(3, .own 0 0), (4, .int .i64 (GS.next z3)), (5, .int .i64 (GS.miss z3)), (6, .view 15 z2 (mgRow (atM (mrgL g n noM 0)))), (11, .view 15 z2 (mgRow (atM (mrgL g n noM 0)))), (12, .int .i64 (↑z2 : Int)), (13, .int .i64 (↑0 : Int))] ∧ RowsEq [(0, .row 83 2 0 (fun (_x : Nat) => []) false)] [(0, .row 83 2 0 (mkRow (atK (GS.out z3))) false)]) ∧ List.length (mrgL g n noM 0) ≤ 100000 ∧ (∀ (m : MG), m ∈ mrgL g n noM 0 → msgF m = (0 : Int)) ∧ (∀ (i : Nat), i < List.length z0 → true = true) ∧ ∃ (O' : List (Nat × AObj)), RowsEq [(0, .row 83 2 (List.length z0) (mkRow (atK z0)) false)] O' ∧ R (.own 0 (List.length z0)) O') := by kernel_rfl
theorem nf_gj_round (M : List MG) (k : Nat) (s : GS) (m : MG) (c : Nat) (P : Nat → Prop) (R : Exit → St → Prop) : roundP ⟨te, [], [], 0, 55, 0⟩ (loopB Tryz.f21 9) [3, 4, 5, 6, 8, 11, 12, 13] [3, 4, 5, 6, 8, 11, 12, 13] [] (S_gj M k s m) P R (S_gj M k s m c) = (letI z4 := (↑(List.length M) : Int); letI z2 := GS.out (gpFill s c); letI z1 := ([(3, .own 0 (List.length z2)), (4, .int .i64 (GS.next (gpFill s c))), (5, .int .i64 (GS.miss (gpFill s c))), (6, .view 15 (List.length M) (mgRow (atM M))), (8, .ptr 1 0), (11, .view 15 (List.length M) (mgRow (atM M))), (12, .int .i64 z4), (13, .int .i64 (↑k : Int))] : List (Nat × AV)); letI z0 := ([.str (MG.dev m), .int .i64 (MG.seq m), .int .i64 (MG.kind m), .str (VT.o (MG.v m)), .str (VT.p (MG.v m)), .int .i64 (VT.per (MG.v m)), .int .i64 (VT.day (MG.v m)), .int .i64 (VT.st (MG.v m)), .int .i64 (VT.pr (MG.v m)), .str (VT.rep (MG.v m)), .str (DT.o (MG.d m)), .str (DT.p (MG.d m)), .int .i64 (DT.per (MG.d m)), .str (DT.dev (MG.d m)), .int .i64 (DT.num (MG.d m))] : List AV); letI z3 := ([(0, .row 83 2 (List.length z2) (mkRow (atK z2)) false), (1, .cells z0 40)] : List (Nat × AObj)); condP (decide (GS.next (gpFill s c) < MG.seq m)) (condP (decide (GS.miss (gpFill s c) < (400 : Int))) ((2 ≤ 16777216 ∧ 2 = 2 ∧ 1 ≤ 9223372036854775807) ∧ ((1 ≤ 1 ∧ 2 = 2) ∧ List.length z2 ≤ List.length z2 ∧ 2 = 2 ∧ 83 = 83 ∧ 2 = 2 ∧ List.length z2 + 1 ≤ 9223372036854775807 ∧ (List.length z2 + 1) * TI.bytes shrtE2 ≤ 140737488355328) ∧ inR .i64 (GS.next (gpFill s c) + (1 : Int)) ∧ inR .i64 (GS.miss (gpFill s c) + (1 : Int)) ∧ ∃ (i' : Nat), letI z5 := GS.out (gpFill s i'); (TEq [(3, .own 0 (List.length z2 + 1)), (4, .int .i64 (GS.next (gpFill s c) + (1 : Int))), (5, .int .i64 (GS.miss (gpFill s c) + (1 : Int))), (6, .view 15 (List.length M) (mgRow (atM M))), (8, .ptr 1 0), (11, .view 15 (List.length M) (mgRow (atM M))), (12, .int .i64 z4), (13, .int .i64 (↑k : Int))] [(3, .own 0 (List.length z5)), (4, .int .i64 (GS.next (gpFill s i'))), (5, .int .i64 (GS.miss (gpFill s i'))), (6, .view 15 (List.length M) (mgRow (atM M))), (8, .ptr 1 0), (11, .view 15 (List.length M) (mgRow (atM M))), (12, .int .i64 z4), (13, .int .i64 (↑k : Int))] ∧ RowsEq [(0, .row 83 2 (List.length z2 + 1) (apF (List.length z2) (mkRow (atK z2)) (chunkA (TI.sz shrtE2) (.str (MG.dev m) :: .int .i64 (GS.next (gpFill s c)) :: List.append [] (List.flatten (List.replicate (nat_lit 0) [.str ([]), .int .i64 0]))))) false), (1, .cells z0 40)] [(0, .row 83 2 (List.length z5) (mkRow (atK z5)) false), (1, .cells z0 40)]) ∧ P i') ((∀ (i : Nat), i < List.length z2 → true = true) ∧ ∃ (O' : List (Nat × AObj)), RowsEq z3 O' ∧ R (.exit 2) (St.mk z1 O' 2 []))) ((∀ (i : Nat), i < List.length z2 → true = true) ∧ ∃ (O' : List (Nat × AObj)), RowsEq z3 O' ∧ R (.exit 2) (St.mk z1 O' 2 []))) := by kernel_rfl
theorem nf_gq_round (M : List MG) (k : Nat) (P : Nat → Prop) (R : Exit → St → Prop) : roundP ⟨te, [], [(9, L_gj M k (gpDev (gpF M k) (atM M k)) (atM M k))], 0, 55, 0⟩ (loopB Tryz.f21 5) [3, 4, 5, 6, 11, 12, 13] [3] [] (S_gq M) P R (S_gq M k) = (letI z13 := GS.out (gpF M k); letI z12 := (MG.seq (atM M k) + (1 : Int)); letI z10 := List.length z13; letI z9 := (↑(List.length M) : Int); letI z5 := (atM M (Int.toNat (↑k : Int))); letI z3 := gpDev (gpF M k) (atM M k); letI z14 := GS.out (gpFill z3 0); letI z8 := gpFill z3 (gpCnt z3 (MG.seq (atM M k))); letI z11 := ([(0, .row 83 2 (List.length (GS.out z8)) (mkRow (atK (GS.out z8))) false)] : List (Nat × AObj)); letI z7 := ([(3, .own 0 (List.length z14)), (4, .int .i64 (GS.next (gpFill z3 0))), (5, .int .i64 (GS.miss (gpFill z3 0))), (6, .view 15 (List.length M) (mgRow (atM M))), (8, .ptr 1 0), (11, .view 15 (List.length M) (mgRow (atM M))), (12, .int .i64 z9), (13, .int .i64 (↑k : Int))] : List (Nat × AV)); letI z6 := ([(3, .own 0 (List.length (GS.out z8))), (4, .int .i64 z12), (5, .int .i64 (GS.miss z8)), (6, .view 15 (List.length M) (mgRow (atM M))), (11, .view 15 (List.length M) (mgRow (atM M))), (12, .int .i64 z9), (13, .int .i64 ((↑k : Int) + (1 : Int)))] : List (Nat × AV)); letI z4 := ([(0, .row 83 2 (List.length z14) (mkRow (atK z14)) false), (1, .cells [.str (MG.dev (atM M k)), .int .i64 (MG.seq (atM M k)), .int .i64 (MG.kind (atM M k)), .str (VT.o (MG.v (atM M k))), .str (VT.p (MG.v (atM M k))), .int .i64 (VT.per (MG.v (atM M k))), .int .i64 (VT.day (MG.v (atM M k))), .int .i64 (VT.st (MG.v (atM M k))), .int .i64 (VT.pr (MG.v (atM M k))), .str (VT.rep (MG.v (atM M k))), .str (DT.o (MG.d (atM M k))), .str (DT.p (MG.d (atM M k))), .int .i64 (DT.per (MG.d (atM M k))), .str (DT.dev (MG.d (atM M k))), .int .i64 (DT.num (MG.d (atM M k)))] 40)] : List (Nat × AObj)); letI z2 := ([(0, .row 83 2 z10 (mkRow (atK z13)) false), (1, .cells [.str (MG.dev z5), .int .i64 (MG.seq z5), .int .i64 (MG.kind z5), .str (VT.o (MG.v z5)), .str (VT.p (MG.v z5)), .int .i64 (VT.per (MG.v z5)), .int .i64 (VT.day (MG.v z5)), .int .i64 (VT.st (MG.v z5)), .int .i64 (VT.pr (MG.v z5)), .str (VT.rep (MG.v z5)), .str (DT.o (MG.d z5)), .str (DT.p (MG.d z5)), .int .i64 (DT.per (MG.d z5)), .str (DT.dev (MG.d z5)), .int .i64 (DT.num (MG.d z5))] 40)] : List (Nat × AObj)); letI z0 := (TEq [(3, .own 0 z10), (4, .int .i64 (GS.next (gpF M k))), (5, .int .i64 (GS.miss (gpF M k))), (6, .view 15 (List.length M) (mgRow (atM M))), (8, .ptr 1 0), (11, .view 15 (List.length M) (mgRow (atM M))), (12, .int .i64 z9), (13, .int .i64 (↑k : Int))] z7 ∧ RowsEq z2 z4); letI z1 := (z0 ∧ GS.dev z3 = MG.dev (atM M k) ∧ List.length (GS.out z3) ≤ 100000000 ∧ ((-1 : Int) ≤ GS.next z3 ∧ GS.next z3 ≤ (1048577 : Int)) ∧ ((0 : Int) ≤ GS.miss z3 ∧ GS.miss z3 ≤ (400 : Int)) ∧ ((1 : Int) ≤ MG.seq (atM M k) ∧ MG.seq (atM M k) ≤ (1048576 : Int)) ∧ inR .i64 z12 ∧ inR .i64 ((↑k : Int) + (1 : Int)) ∧ ∃ (i' : Nat), (TEq z6 [(3, .own 0 (List.length (GS.out (gpF M i')))), (4, .int .i64 (GS.next (gpF M i'))), (5, .int .i64 (GS.miss (gpF M i'))), (6, .view 15 (List.length M) (mgRow (atM M))), (11, .view 15 (List.length M) (mgRow (atM M))), (12, .int .i64 z9), (13, .int .i64 (↑i' : Int))] ∧ RowsEq z11 [(0, .row 83 2 (List.length (GS.out (gpF M i'))) (mkRow (atK (GS.out (gpF M i')))) false)]) ∧ P i'); condP (decide ((↑k : Int) < z9)) (((0 : Int) ≤ (↑k : Int) ∧ (↑k : Int) < z9 ∧ 15 = 15) ∧ condP (decide ((0 : Int) < (↑k : Int))) (inR .i64 ((↑k : Int) - (1 : Int)) ∧ ((0 : Int) ≤ (↑k : Int) - (1 : Int) ∧ (↑k : Int) - (1 : Int) < z9 ∧ 15 = 15) ∧ condP (!decide (MG.dev (atM M (Int.toNat ((↑k : Int) - (1 : Int)))) = MG.dev z5)) ((TEq [(3, .own 0 z10), (4, .int .i64 1), (5, .int .i64 0), (6, .view 15 (List.length M) (mgRow (atM M))), (8, .ptr 1 0), (11, .view 15 (List.length M) (mgRow (atM M))), (12, .int .i64 z9), (13, .int .i64 (↑k : Int))] z7 ∧ RowsEq z2 z4) ∧ GS.dev z3 = MG.dev (atM M k) ∧ List.length (GS.out z3) ≤ 100000000 ∧ ((-1 : Int) ≤ GS.next z3 ∧ GS.next z3 ≤ (1048577 : Int)) ∧ ((0 : Int) ≤ GS.miss z3 ∧ GS.miss z3 ≤ (400 : Int)) ∧ ((1 : Int) ≤ MG.seq (atM M k) ∧ MG.seq (atM M k) ≤ (1048576 : Int)) ∧ inR .i64 z12 ∧ inR .i64 ((↑k : Int) + (1 : Int)) ∧ ∃ (i' : Nat), (TEq z6 [(3, .own 0 (List.length (GS.out (gpF M i')))), (4, .int .i64 (GS.next (gpF M i'))), (5, .int .i64 (GS.miss (gpF M i'))), (6, .view 15 (List.length M) (mgRow (atM M))), (11, .view 15 (List.length M) (mgRow (atM M))), (12, .int .i64 z9), (13, .int .i64 (↑i' : Int))] ∧ RowsEq z11 [(0, .row 83 2 (List.length (GS.out (gpF M i'))) (mkRow (atK (GS.out (gpF M i')))) false)]) ∧ P i') z1) z1) ((∀ (i : Nat), i < List.length z13 → true = true) ∧ ∃ (O' : List (Nat × AObj)), RowsEq [(0, .row 83 2 z10 (mkRow (atK z13)) false)] O' ∧ R (.exit 0) (St.mk [(3, .own 0 z10)] O' 1 []))) := by kernel_rfl
theorem sk_stop {g h : Nat → List UInt8 × Int} {k : Nat} (e : eqKs g h (k + 1) = false) : ∀ n, k < n → eqKs g h n = false
  | 0, hn => by omega
  | n + 1, hn => by
    by_cases q : k = n
    · subst q; exact e
    · rw [eqKs, sk_stop e n (by omega), Bool.false_and]
theorem sk_loop (hP : C.P = Tryz.prog) (g h : Nat → List UInt8 × Int) (n : Nat) : LoopOK C 0 26 (loopC Tryz.f17 4) (L_sk g h n) := by
  have _ : C.Loose := inferInstance
  rintro st Q ⟨h0, hn, hQ⟩
  have hR := condP_elim hQ
  refine LoopOK.mk (prg hP) [] 0 .nil [0, 1, 12, 13] [] [4] (S_sk g h n) (fun k => k ≤ n ∧ eqKs g h k = true) (fun k => n - k) 0 ⟨Nat.zero_le _, rfl⟩ h0 (fun k hk => ?_)
  obtain ⟨hkn, hok⟩ := hk
  rw [nf_sk_round, Int.toNat_natCast]
  refine condP_dec (fun h1 => ?_) (fun h1 => ?_)
  · refine ⟨⟨by omega, by omega, rfl⟩, ⟨by omega, by omega, rfl⟩, condP_not (fun h2 => hR.2 (sk_stop (k := k) (by rw [eqKs, show smK (g k) (h k) = false from h2, Bool.and_false]) n (by omega))) (fun h2 => ⟨by simp only [inR]; omega, k + 1, rfl, ⟨by omega, ?_⟩, by omega⟩)⟩
    rw [eqKs, hok]; exact h2
  · have : k = n := by omega
    subst this
    exact hR.1 hok
theorem sameK_ok (hP : C.P = Tryz.prog) : SpecOK C 17 S_sameK := by
  rintro args objs U Os vc h hvc
  unfold S_sameK at h
  split at h <;> simp only [Option.some.injEq, Prod.mk.injEq, reduceCtorEq] at h
  rename_i n f m h'
  obtain ⟨rfl, rfl, rfl⟩ := h
  obtain ⟨hn, hf, hh⟩ := hvc
  generalize mkOf f = g at *
  generalize mkOf h' = g' at *
  subst hf; subst hh
  refine SpecOK.wpL (prg hP) [] [(4, L_sk g g' n)] 0 .nil (hP ▸ Tryz.func17) rfl rfl rfl [(loopC Tryz.f17 4, L_sk g g' n)] (by kernel_rfl) ⟨sk_loop hP g g' n, trivial⟩ ?_
  rw [nf_sameK]
  refine condP_ndec (fun h1 => ?_) (fun h1 => ?_)
  · rw [decide_eq_false (show ¬ n = m by omega)]; exact ⟨rfl, rfl⟩
  · have : n = m := by omega
    subst this
    rw [decide_eq_true rfl]
    exact ⟨rfl, hn, condP_intro (fun h2 => by rw [h2]; exact ⟨rfl, rfl⟩) (fun h2 => by rw [h2]; exact ⟨rfl, rfl⟩)⟩
theorem eqKs_self (g : Nat → List UInt8 × Int) : ∀ n, eqKs g g n = true
  | 0 => rfl
  | n + 1 => by rw [eqKs, eqKs_self g n, smK_iff.2 rfl]; rfl
theorem sameK_true {X Y : List (List UInt8 × Int)} (h : X = Y) : (decide (X.length = Y.length) && eqKs (atK X) (atK Y) X.length) = true := by
  subst h
  rw [decide_eq_true rfl, eqKs_self]; rfl
theorem cn_loop (hP : C.P = Tryz.prog) (M : List MG) : LoopOK C 0 46 (loopC Tryz.f18 5) (L_cn M) := by
  rintro st Q ⟨h0, hn, hQ⟩
  refine AWP.ownNil 5 83 2 ?_
  refine LoopOK.mk (prg hP) [(63, .det S_mark)] 0 (.cons (mark_ok hP) .nil) [4, 5, 13, 14, 15] [5] [] (S_cn M) (fun k => k ≤ M.length) (fun k => M.length - k) 0 (Nat.zero_le _) h0 (fun k hk => ?_) (fun i => ⟨fun _ _ => rfl, fun _ _ => rfl, trivial⟩)
  rw [nf_cn_round, Int.toNat_natCast]
  have hlen := clnP_len M k
  have F1 : Option.getD (mget (entM (cntL (atM M) M.length)) (.agg [.str (atM M k).dev, .int .i64 (atM M k).seq])) (.int .i64 0) = .int .i64 (getC (cntL (atM M) M.length) (mk2 (atM M k))) := mget_entM (mk2 (atM M k)) _
  rw [getC_cntL] at F1
  have e1 : (((clnP M k).length : Int) - 1).toNat = (clnP M k).length - 1 := by omega
  simp only [F1, intOf, e1, entM_rn]
  have K1 := entM_keys (cntL_nodup (atM M) M.length)
  have step : clnP M (k + 1) = bif decide (1 < numC (atM M) (mk2 (atM M k)) M.length) && (decide ((clnP M k).length = 0) || !smK (atK (clnP M k) ((clnP M k).length - 1)) (mk2 (atM M k))) then clnP M k ++ [mk2 (atM M k)] else clnP M k := rfl
  have no : clnP M (k + 1) = clnP M k → k < M.length → inR .i64 ((k : Int) + 1) ∧ ∃ i' : Nat, (TEq [(4, .map 0), (5, .own 1 (clnP M k).length), (13, .own 2 M.length), (14, .int .i64 (M.length : Int)), (15, .int .i64 ((k : Int) + 1))] [(4, .map 0), (5, .own 1 (clnP M i').length), (13, .own 2 M.length), (14, .int .i64 (M.length : Int)), (15, .int .i64 (i' : Int))] ∧
      RowsEq [(0, .amap (entM (cntL (atM M) M.length))), (1, .row 83 2 (clnP M k).length (mkRow (atK (clnP M k))) false), (2, .row 40 15 M.length (mgRow (atM M)) false)] [(0, .amap (entM (cntL (atM M) M.length))), (1, .row 83 2 (clnP M i').length (mkRow (atK (clnP M i'))) false), (2, .row 40 15 M.length (mgRow (atM M)) false)]) ∧ (i' ≤ M.length ∧ M.length - i' < M.length - k) := fun h hk' => by
    refine ⟨by simp only [inR]; omega, k + 1, ?_, by omega, by omega⟩
    rw [h]
    exact ⟨rfl, rfl, ⟨rfl, rfl, rfl, rfl, rfl, fun _ _ => rfl⟩, ⟨rfl, rfl, rfl, rfl, rfl, fun _ _ => rfl⟩, trivial⟩
  refine condP_dec (fun h1 => ?_) (fun h1 => ?_)
  · have hk' : k < M.length := by omega
    refine ⟨⟨by omega, by omega⟩, ⟨by omega, trivial⟩, trivial, ⟨K1, trivial⟩, condP_dec (fun h2 => condP_dec (fun h3 => ?_) (fun h3 => ⟨by simp only [inR]; omega, ⟨by omega, by omega⟩, ⟨by omega, trivial⟩, condP_not (fun h4 => ?_) (fun h4 => ?_)⟩)) (fun h2 => ?_)⟩
    · have h : clnP M (k + 1) = clnP M k ++ [mk2 (atM M k)] := by rw [step, decide_eq_true h2, decide_eq_true (show (clnP M k).length = 0 by omega)]; rfl
      refine ⟨⟨by omega, trivial, by omega⟩, ⟨⟨Nat.le_refl _, trivial⟩, Nat.le_refl _, trivial, trivial, trivial, by omega, ?_⟩, by simp only [inR]; omega, k + 1, ?_, by omega, by omega⟩
      · show ((clnP M k).length + 1) * 24 ≤ _
        omega
      · rw [h, List.length_append]
        exact ⟨rfl, rfl, ⟨rfl, rfl, rfl, rfl, rfl, fun j hj => putRowL (fun x : List UInt8 × Int => [AV.str x.1, .int .i64 x.2]) (clnP M k) (mk2 (atM M k)) _ rfl j hj⟩, ⟨rfl, rfl, rfl, rfl, rfl, fun _ _ => rfl⟩, trivial⟩
    · have h : clnP M (k + 1) = clnP M k ++ [mk2 (atM M k)] := by
        rw [step, decide_eq_true h2, show smK (atK (clnP M k) ((clnP M k).length - 1)) (mk2 (atM M k)) = false from h4]
        simp
      refine ⟨⟨by omega, trivial, by omega⟩, ⟨⟨Nat.le_refl _, trivial⟩, Nat.le_refl _, trivial, trivial, trivial, by omega, ?_⟩, by simp only [inR]; omega, k + 1, ?_, by omega, by omega⟩
      · show ((clnP M k).length + 1) * 24 ≤ _
        omega
      · rw [h, List.length_append]
        exact ⟨rfl, rfl, ⟨rfl, rfl, rfl, rfl, rfl, fun j hj => putRowL (fun x : List UInt8 × Int => [AV.str x.1, .int .i64 x.2]) (clnP M k) (mk2 (atM M k)) _ rfl j hj⟩, ⟨rfl, rfl, rfl, rfl, rfl, fun _ _ => rfl⟩, trivial⟩
    · exact no (by rw [step, decide_eq_true h2, decide_eq_false (show ¬ (clnP M k).length = 0 by omega), show smK (atK (clnP M k) ((clnP M k).length - 1)) (mk2 (atM M k)) = true from h4]; rfl) hk'
    · exact no (by rw [step, decide_eq_false h2]; rfl) hk'
  · have : k = M.length := by omega
    subst this
    exact ⟨fun _ _ => trivial, _, rowsEqR _, hQ⟩
theorem cloned_ok (hP : C.P = Tryz.prog) (hL : ∀ w, C.laid w → LaidW w) : SpecOK C 18 S_cloned := by
  rintro args objs U Os vc h hvc
  unfold S_cloned at h
  split at h <;> simp only [Option.some.injEq, Prod.mk.injEq, reduceCtorEq] at h
  rename_i n f
  obtain ⟨rfl, rfl, rfl⟩ := h
  obtain ⟨hn, hf, hs⟩ := hvc
  generalize mgOf f = g at *
  subst hf
  refine ACalls.frzO 0 ?_
  refine RSpecOK.wpL (prg hP) [(61, .det S_mrgN), (62, .det S_counts)] [(5, L_cn (mrgL g n noM 0))] 0 (.cons (mrgN_ok hP hL) (.cons (counts_ok hP) .nil)) (hP ▸ Tryz.func18) rfl rfl rfl [(loopC Tryz.f18 5, L_cn (mrgL g n noM 0))] (by kernel_rfl) ⟨cn_loop hP _, trivial⟩ ?_
  rw [nf_cloned]
  repeat rw [entM_rn]
  have h1 := mrgL_len g n noM 0
  have h2 := clnP_len (mrgL g n noM 0) (mrgL g n noM 0).length
  refine ⟨⟨hn, rfl, hs⟩, fun _ _ => rfl, fun _ _ => rfl, ⟨rfl, rfl, rfl, by show (mrgL g n noM 0).length ≤ _; omega, rfl⟩, fun _ _ => rfl, ⟨rfl, rfl, ⟨rfl, rfl, rfl, rfl, rfl, fun i hi => absurd hi (Nat.not_lt_zero i)⟩, ⟨rfl, rfl, rfl, rfl, rfl, fun _ _ => rfl⟩, trivial⟩, by omega, fun _ _ => rfl, _, rowsEqR _, ?_⟩
  show frzO _ _ _ _
  unfold clonL
  generalize clnP (mrgL g n noM 0) (mrgL g n noM 0).length = L
  refine ⟨fun _ _ => rfl, ?_⟩
  have hb : Nat.ble L.length L.length = true := Nat.ble_eq_true_of_le (Nat.le_refl _)
  constructor
  · simp [frzC, frzA, frz, hb]
  · rfl
theorem cr11_loop (hP : C.P = Tryz.prog) (M : List MG) : LoopOK C 0 60 (loopC Tryz.f19 4) (L_cr11 M) := by
  rintro st Q ⟨h0, hn, hQ⟩
  refine AWP.ownNil 4 83 2 ?_
  refine LoopOK.mk (prg hP) [(65, .det S_sameR)] 0 (.cons (sameR_ok hP) .nil) [3, 4, 9, 10] [4] [] (S_cr11 M) (fun k => k ≤ M.length) (fun k => M.length - k) 0 (Nat.zero_le _) h0 (fun k hk => ?_) (fun i => ⟨fun _ _ => rfl, trivial⟩)
  rw [nf_cr11_round, Int.toNat_natCast]
  have hlen := clnR_len M k
  have e1 : ((k : Int) - 1).toNat = k - 1 := by omega
  have e2 : ((k : Int) - 2).toNat = k - 2 := by omega
  rw [e1, e2]
  have step : clnR M (k + 1) = bif decide (0 < k) && (sameB (atM M (k - 1)) (atM M k) && (decide (k = 1) || !sameB (atM M (k - 2)) (atM M k))) then clnR M k ++ [mk2 (atM M k)] else clnR M k := rfl
  have no : clnR M (k + 1) = clnR M k → k < M.length → inR .i64 ((k : Int) + 1) ∧ ∃ i' : Nat, (TEq [(3, .view 15 M.length (mgRow (atM M))), (4, .own 0 (clnR M k).length), (9, .int .i64 (M.length : Int)), (10, .int .i64 ((k : Int) + 1))] [(3, .view 15 M.length (mgRow (atM M))), (4, .own 0 (clnR M i').length), (9, .int .i64 (M.length : Int)), (10, .int .i64 (i' : Int))] ∧
      RowsEq [(0, .row 83 2 (clnR M k).length (mkRow (atK (clnR M k))) false)] [(0, .row 83 2 (clnR M i').length (mkRow (atK (clnR M i'))) false)]) ∧ (i' ≤ M.length ∧ M.length - i' < M.length - k) := fun h hk' => by
    refine ⟨by simp only [inR]; omega, k + 1, ?_, by omega, by omega⟩
    rw [h]
    exact ⟨rfl, ⟨rfl, rfl, rfl, rfl, rfl, fun _ _ => rfl⟩, trivial⟩
  refine condP_dec (fun h1 => ?_) (fun h1 => ?_)
  · have hk' : k < M.length := by omega
    refine condP_dec (fun h2 => ⟨by simp only [inR]; omega, ⟨by omega, by omega, rfl⟩, ⟨by omega, by omega, rfl⟩, trivial, condP_intro (fun h3 => condP_dec (fun h4 => ?_) (fun h4 => ⟨by simp only [inR]; omega, ⟨by omega, by omega, rfl⟩, ⟨by omega, by omega, rfl⟩, trivial, condP_not (fun h5 => ?_) (fun h5 => ?_)⟩)) (fun h3 => ?_)⟩) (fun h2 => ?_)
    · have h : clnR M (k + 1) = clnR M k ++ [mk2 (atM M k)] := by
        rw [step, decide_eq_true (show 0 < k by omega), show sameB (atM M (k - 1)) (atM M k) = true from h3, decide_eq_true (show k = 1 by omega)]; rfl
      refine ⟨⟨by omega, by omega, rfl⟩, ⟨by omega, by omega, rfl⟩, ⟨by omega, rfl, by omega⟩, ⟨⟨Nat.le_refl _, rfl⟩, Nat.le_refl _, rfl, rfl, rfl, by omega, ?_⟩, by simp only [inR]; omega, k + 1, ?_, by omega, by omega⟩
      · show ((clnR M k).length + 1) * 24 ≤ _
        omega
      · rw [h, List.length_append]
        exact ⟨rfl, ⟨rfl, rfl, rfl, rfl, rfl, fun j hj => putRowL (fun x : List UInt8 × Int => [AV.str x.1, .int .i64 x.2]) (clnR M k) (mk2 (atM M k)) _ rfl j hj⟩, trivial⟩
    · have h : clnR M (k + 1) = clnR M k ++ [mk2 (atM M k)] := by
        rw [step, decide_eq_true (show 0 < k by omega), show sameB (atM M (k - 1)) (atM M k) = true from h3, show sameB (atM M (k - 2)) (atM M k) = false from h5]
        simp
      refine ⟨⟨by omega, by omega, rfl⟩, ⟨by omega, by omega, rfl⟩, ⟨by omega, rfl, by omega⟩, ⟨⟨Nat.le_refl _, rfl⟩, Nat.le_refl _, rfl, rfl, rfl, by omega, ?_⟩, by simp only [inR]; omega, k + 1, ?_, by omega, by omega⟩
      · show ((clnR M k).length + 1) * 24 ≤ _
        omega
      · rw [h, List.length_append]
        exact ⟨rfl, ⟨rfl, rfl, rfl, rfl, rfl, fun j hj => putRowL (fun x : List UInt8 × Int => [AV.str x.1, .int .i64 x.2]) (clnR M k) (mk2 (atM M k)) _ rfl j hj⟩, trivial⟩
    · exact no (by rw [step, decide_eq_false (show ¬ k = 1 by omega), show sameB (atM M (k - 2)) (atM M k) = true from h5]; simp) hk'
    · exact no (by rw [step, show sameB (atM M (k - 1)) (atM M k) = false from h3]; simp) hk'
    · exact no (by rw [step, decide_eq_false (show ¬ 0 < k by omega)]; rfl) hk'
  · have : k = M.length := by omega
    subst this
    exact ⟨fun _ _ => rfl, _, rowsEqR _, hQ⟩
theorem clonR_ok (hP : C.P = Tryz.prog) : SpecOK C 19 S_cloned := by
  rintro args objs U Os vc h hvc
  unfold S_cloned at h
  split at h <;> simp only [Option.some.injEq, Prod.mk.injEq, reduceCtorEq] at h
  rename_i n f
  obtain ⟨rfl, rfl, rfl⟩ := h
  obtain ⟨hn, hf, hs⟩ := hvc
  generalize mgOf f = g at *
  subst hf
  refine ACalls.frzO 0 ?_
  refine RSpecOK.wpL (prg hP) [(64, .det S_mrgVN)] [(4, L_cr11 (mrgL g n noM 0))] 0 (.cons (mrgRN_ok hP) .nil) (hP ▸ Tryz.func19) rfl rfl rfl [(loopC Tryz.f19 4, L_cr11 (mrgL g n noM 0))] (by kernel_rfl) ⟨cr11_loop hP _, trivial⟩ ?_
  rw [nf_clonR]
  have h1 := mrgL_len g n noM 0
  refine ⟨⟨hn, rfl, hs⟩, ⟨rfl, ⟨rfl, rfl, rfl, rfl, rfl, fun i hi => absurd hi (Nat.not_lt_zero i)⟩, trivial⟩, by omega, fun _ _ => rfl, _, rowsEqR _, fun _ _ => rfl, ?_⟩
  rw [clonL_ref]
  generalize clonL g n = L
  have hb : Nat.ble L.length L.length = true := Nat.ble_eq_true_of_le (Nat.le_refl _)
  constructor
  · simp [frzC, frzA, frz, hb]
  · rfl
theorem gj_loop (hP : C.P = Tryz.prog) (M : List MG) (k : Nat) (s : GS) (m : MG) : LoopOK C 0 55 (loopC Tryz.f21 9) (L_gj M k s m) := by
  have _ : C.Loose := inferInstance
  rintro st Q ⟨h0, hd, ho, hx, hm, hs, hQ⟩
  refine LoopOK.mk (prg hP) [] 0 .nil [3, 4, 5, 6, 8, 11, 12, 13] [3, 4, 5, 6, 8, 11, 12, 13] [] (S_gj M k s m) (fun c => c ≤ gpCnt s m.seq) (fun c => gpCnt s m.seq - c) 0 (Nat.zero_le _) h0 (fun c hc => ?_) (fun i => ⟨fun _ _ => rfl, trivial⟩)
  rw [nf_gj_round]
  have hlen := gpFill_len s c
  refine condP_dec (fun h1 => condP_dec (fun h2 => ?_) (fun h2 => ?_)) (fun h1 => ?_)
  · have h1 : s.next + (c : Int) < m.seq := h1
    have h2 : s.miss + (c : Int) < 400 := h2
    have hlt : c < gpCnt s m.seq := by unfold gpCnt; omega
    have hc4 := gpCnt_le s m.seq hm.1
    have e1 : (gpFill s (c + 1)).out = (gpFill s c).out ++ [(m.dev, s.next + (c : Int))] := by rw [gpFill_succ, hd]
    have e3 : (gpFill s (c + 1)).next = (gpFill s c).next + 1 := by show s.next + ((c + 1 : Nat) : Int) = s.next + (c : Int) + 1; omega
    have e4 : (gpFill s (c + 1)).miss = (gpFill s c).miss + 1 := by show s.miss + ((c + 1 : Nat) : Int) = s.miss + (c : Int) + 1; omega
    refine ⟨⟨by omega, rfl, by omega⟩, ⟨⟨Nat.le_refl _, rfl⟩, Nat.le_refl _, rfl, rfl, rfl, by omega, ?_⟩, ?_, ?_, c + 1, ?_, by omega, by omega⟩
    · show ((gpFill s c).out.length + 1) * 24 ≤ _
      omega
    · show inR .i64 (s.next + (c : Int) + 1)
      simp only [inR]; omega
    · show inR .i64 (s.miss + (c : Int) + 1)
      simp only [inR]; omega
    · rw [e1, e3, e4, List.length_append]
      exact ⟨rfl, ⟨rfl, rfl, rfl, rfl, rfl, fun j hj => putRowL (fun x : List UInt8 × Int => [AV.str x.1, .int .i64 x.2]) (gpFill s c).out (m.dev, s.next + (c : Int)) _ rfl j hj⟩, rfl, trivial⟩
  · have h2 : ¬ s.miss + (c : Int) < 400 := h2
    have : gpCnt s m.seq = c := by unfold gpCnt at hc ⊢; omega
    rw [this] at hQ
    exact ⟨fun _ _ => rfl, _, rowsEqR _, hQ⟩
  · have h1 : ¬ s.next + (c : Int) < m.seq := h1
    have : gpCnt s m.seq = c := by unfold gpCnt at hc ⊢; omega
    rw [this] at hQ
    exact ⟨fun _ _ => rfl, _, rowsEqR _, hQ⟩
theorem gq_loop (hP : C.P = Tryz.prog) (M : List MG) : LoopOK C 0 55 (loopC Tryz.f21 5) (L_gq M) := by
  rintro st Q ⟨h0, hn, hv, hQ⟩
  refine AWP.ownNil 3 83 2 ?_
  refine LoopOK.mkI (prg hP) [] (fun k : Nat => [(9, L_gj M k (gpDev (gpF M k) (atM M k)) (atM M k))]) 0 .nil
    (fun k => [(loopC Tryz.f21 9, L_gj M k (gpDev (gpF M k) (atM M k)) (atM M k))])
    (fun k => by kernel_rfl) (fun k => ⟨gj_loop hP _ _ _ _, trivial⟩) [3, 4, 5, 6, 11, 12, 13] [3] [] (S_gq M) (fun k => k ≤ M.length ∧ (gpF M k).out.length ≤ 400 * k ∧ (1 ≤ (gpF M k).next ∧ (gpF M k).next ≤ 1048577) ∧ (0 ≤ (gpF M k).miss ∧ (gpF M k).miss ≤ 400)) (fun k => M.length - k) 0 ⟨Nat.zero_le _, Nat.zero_le _, (by decide : (1 : Int) ≤ 1 ∧ (1 : Int) ≤ 1048577), (by decide : (0 : Int) ≤ 0 ∧ (0 : Int) ≤ 400)⟩ h0 (fun k hk => ?_) (fun i => ⟨fun _ _ => rfl, trivial⟩)
  obtain ⟨hk, i1, i2, i3⟩ := hk
  rw [nf_gq_round, Int.toNat_natCast, gpFill_zero, show ((k : Int) - 1).toNat = k - 1 by omega]
  refine condP_dec (fun h1 => ?_) (fun h1 => ?_)
  · have hkM : k < M.length := by omega
    obtain ⟨_, q1, q2⟩ := msgF_seq (hv _ (atM_mem hkM))
    have hsu : gpF M (k + 1) = ⟨(gpFill (gpDev (gpF M k) (atM M k)) (gpCnt (gpDev (gpF M k) (atM M k)) (atM M k).seq)).out, (atM M k).dev, (atM M k).seq + 1, (gpFill (gpDev (gpF M k) (atM M k)) (gpCnt (gpDev (gpF M k) (atM M k)) (atM M k).seq)).miss⟩ := rfl
    have b1 : ¬ (atM M k).dev = (gpF M k).dev → gpDev (gpF M k) (atM M k) = ⟨(gpF M k).out, (atM M k).dev, 1, 0⟩ := fun q => by unfold gpDev; rw [decide_eq_false q]; rfl
    have b2 : (atM M k).dev = (gpF M k).dev → gpDev (gpF M k) (atM M k) = gpF M k := fun q => by unfold gpDev; rw [decide_eq_true q]; rfl
    have hdv : 0 < k → (gpF M k).dev = (atM M (k - 1)).dev := fun q => by
      obtain ⟨j, rfl⟩ : ∃ j, k = j + 1 := ⟨k - 1, by omega⟩
      rfl
    have facts : (gpDev (gpF M k) (atM M k)).dev = (atM M k).dev ∧ (gpDev (gpF M k) (atM M k)).out.length ≤ 400 * k ∧ (1 ≤ (gpDev (gpF M k) (atM M k)).next ∧ (gpDev (gpF M k) (atM M k)).next ≤ 1048577) ∧ (0 ≤ (gpDev (gpF M k) (atM M k)).miss ∧ (gpDev (gpF M k) (atM M k)).miss ≤ 400) ∧ (gpDev (gpF M k) (atM M k)).out = (gpF M k).out := by
      by_cases q : (atM M k).dev = (gpF M k).dev
      · rw [b2 q]; exact ⟨q.symm, i1, i2, i3, rfl⟩
      · rw [b1 q]; exact ⟨rfl, i1, (by decide : (1 : Int) ≤ 1 ∧ (1 : Int) ≤ 1048577), (by decide : (0 : Int) ≤ 0 ∧ (0 : Int) ≤ 400), rfl⟩
    have n1 : 0 < k → ¬ (atM M (k - 1)).dev = (atM M k).dev → (gpDev (gpF M k) (atM M k)).next = 1 ∧ (gpDev (gpF M k) (atM M k)).miss = 0 := fun q r => by
      rw [b1 (fun e => r (by rw [e, hdv q]))]; exact ⟨rfl, rfl⟩
    have n2 : (0 < k → (atM M (k - 1)).dev = (atM M k).dev) → (gpDev (gpF M k) (atM M k)).next = (gpF M k).next ∧ (gpDev (gpF M k) (atM M k)).miss = (gpF M k).miss := fun r => by
      rcases Nat.eq_zero_or_pos k with q | q
      · subst q
        by_cases e : (atM M 0).dev = (gpF M 0).dev
        · rw [b2 e]; exact ⟨rfl, rfl⟩
        · rw [b1 e]; exact ⟨rfl, rfl⟩
      · rw [b2 (by rw [hdv q, r q])]; exact ⟨rfl, rfl⟩
    generalize gpDev (gpF M k) (atM M k) = s1 at *
    obtain ⟨f1, f2, f3, f4, f5⟩ := facts
    have hcnt := gpCnt_le s1 (atM M k).seq f4.1
    have hlen := gpFill_len s1 (gpCnt s1 (atM M k).seq)
    have hmiss : s1.miss + (gpCnt s1 (atM M k).seq : Int) ≤ 400 := by unfold gpCnt; omega
    have tail : s1.dev = (atM M k).dev ∧ s1.out.length ≤ 100000000 ∧ ((-1 : Int) ≤ s1.next ∧ s1.next ≤ 1048577) ∧ ((0 : Int) ≤ s1.miss ∧ s1.miss ≤ 400) ∧ ((1 : Int) ≤ (atM M k).seq ∧ (atM M k).seq ≤ 1048576) ∧ inR .i64 ((atM M k).seq + 1) ∧ inR .i64 ((k : Int) + 1) ∧ ∃ i' : Nat,
        (TEq [(3, .own 0 (gpFill s1 (gpCnt s1 (atM M k).seq)).out.length), (4, .int .i64 ((atM M k).seq + 1)), (5, .int .i64 (gpFill s1 (gpCnt s1 (atM M k).seq)).miss), (6, .view 15 M.length (mgRow (atM M))), (11, .view 15 M.length (mgRow (atM M))), (12, .int .i64 (M.length : Int)), (13, .int .i64 ((k : Int) + 1))]
          [(3, .own 0 (gpF M i').out.length), (4, .int .i64 (gpF M i').next), (5, .int .i64 (gpF M i').miss), (6, .view 15 M.length (mgRow (atM M))), (11, .view 15 M.length (mgRow (atM M))), (12, .int .i64 (M.length : Int)), (13, .int .i64 (i' : Int))] ∧
        RowsEq [(0, .row 83 2 (gpFill s1 (gpCnt s1 (atM M k).seq)).out.length (mkRow (atK (gpFill s1 (gpCnt s1 (atM M k).seq)).out)) false)] [(0, .row 83 2 (gpF M i').out.length (mkRow (atK (gpF M i').out)) false)]) ∧
        (i' ≤ M.length ∧ (gpF M i').out.length ≤ 400 * i' ∧ (1 ≤ (gpF M i').next ∧ (gpF M i').next ≤ 1048577) ∧ (0 ≤ (gpF M i').miss ∧ (gpF M i').miss ≤ 400)) ∧ M.length - i' < M.length - k := by
      refine ⟨f1, by omega, by omega, by omega, ⟨q1, q2⟩, by simp only [inR]; omega, by simp only [inR]; omega, k + 1, ?_, ⟨hkM, ?_, ?_, ?_⟩, by omega⟩
      · rw [hsu]; exact ⟨rfl, rowsEqR _⟩
      · rw [hsu]; show (gpFill s1 (gpCnt s1 (atM M k).seq)).out.length ≤ _; omega
      · rw [hsu]; show 1 ≤ (atM M k).seq + 1 ∧ (atM M k).seq + 1 ≤ 1048577; omega
      · rw [hsu]; show 0 ≤ s1.miss + (gpCnt s1 (atM M k).seq : Int) ∧ s1.miss + (gpCnt s1 (atM M k).seq : Int) ≤ 400; omega
    refine ⟨⟨by omega, by omega, rfl⟩, condP_dec (fun h2 => ⟨by simp only [inR]; omega, ⟨by omega, by omega, rfl⟩, condP_ndec (fun q => ⟨?_, tail⟩) (fun q => ⟨?_, tail⟩)⟩) (fun h2 => ⟨?_, tail⟩)⟩
    · obtain ⟨x1, x2⟩ := n1 (by omega) q
      rw [f5, x1, x2]; exact ⟨rfl, rowsEqR _⟩
    · obtain ⟨x1, x2⟩ := n2 (fun _ => q)
      rw [f5, x1, x2]; exact ⟨rfl, rowsEqR _⟩
    · obtain ⟨x1, x2⟩ := n2 (fun q => absurd q (by omega))
      rw [f5, x1, x2]; exact ⟨rfl, rowsEqR _⟩
  · have : k = M.length := by omega
    subst this
    exact ⟨fun _ _ => rfl, _, rowsEqR _, hQ⟩
theorem gapsR_ok (hP : C.P = Tryz.prog) : SpecOK C 21 S_gaps := by
  rintro args objs U Os vc h hvc
  unfold S_gaps at h
  split at h <;> simp only [Option.some.injEq, Prod.mk.injEq, reduceCtorEq] at h
  rename_i n f
  obtain ⟨rfl, rfl, rfl⟩ := h
  obtain ⟨hn, hf, hs⟩ := hvc
  generalize mgOf f = g at *
  subst hf
  refine ACalls.frzO 0 ?_
  refine RSpecOK.wpL (prg hP) [(64, .det S_mrgVN)] [(5, L_gq (mrgL g n noM 0))] 0 (.cons (mrgRN_ok hP) .nil) (hP ▸ Tryz.func21) rfl rfl rfl [(loopC Tryz.f21 5, L_gq (mrgL g n noM 0))] (by kernel_rfl) ⟨gq_loop hP _, trivial⟩ ?_
  rw [nf_gapsR]
  have h1 := mrgL_len g n noM 0
  refine ⟨⟨hn, rfl, hs⟩, ⟨rfl, ⟨rfl, rfl, rfl, rfl, rfl, fun i hi => absurd hi (Nat.not_lt_zero i)⟩, trivial⟩, by omega, fun m hm => (mrgF_mem.1 hm).2, fun _ _ => rfl, _, rowsEqR _, fun _ _ => rfl, ?_⟩
  unfold gapL
  generalize (gpF (mrgL g n noM 0) (mrgL g n noM 0).length).out = L
  have hb : Nat.ble L.length L.length = true := Nat.ble_eq_true_of_le (Nat.le_refl _)
  constructor
  · simp [frzC, frzA, frz, hb]
  · rfl
end Go.Eng
namespace Go.Eng
structure LiS where
  j : Nat
  c : Nat
  g : Nat → MG
  a : Int
def S_li (n : Nat) (v : Nat → Int) (N : Int) (i : LiS) : St := ⟨[(0, .ptr 0 0), (3, .own 1 i.c), (7, .int .i64 N), (8, .int .i64 i.j)],
  [(0, .cells [.view 1 n (intRow v), .int .i64 i.a] 27), (1, .row 40 15 i.c (mgRow i.g) false)], 2, []⟩
def L_li (n : Nat) (v : Nat → Int) : LSpec := fun st Q => ∃ (N : Int) (c : Nat) (g : Nat → MG) (a : Int), canonIs te 1 [0, 3, 7, 8] st (S_li n v N ⟨0, c, g, a⟩) ∧ (0 ≤ N ∧ N ≤ 2) ∧ c ≤ 9 ∧ (0 ≤ a ∧ a ≤ 4611686018427365000) ∧ (∀ j, j < c → (g j).Sm) ∧
  ∀ i : LiS, i.c = c + N.toNat → (a ≤ i.a ∧ i.a ≤ a + 24) → (∀ j, j < i.c → (i.g j).Sm) → Q (.exit 0) ⟨[(0, .ptr 0 0), (3, .own 1 i.c)], [(0, .cells [.view 1 n (intRow v), .int .i64 i.a] 27), (1, .row 40 15 i.c (mgRow i.g) false)], 2, []⟩
structure TrS where
  k : Nat
  L : List MG
  a : Int
def S_tr (n : Nat) (v : Nat → Int) (g : Nat → MG) (c : Nat) (i : TrS) : St := ⟨[(0, .ptr 0 0), (5, .own 1 i.L.length), (10, .view 15 c (mgRow g)), (11, .int .i64 c), (12, .int .i64 i.k)],
  [(0, .cells [.view 1 n (intRow v), .int .i64 i.a] 27), (1, .row 40 15 i.L.length (mgRow (atM i.L)) false)], 2, []⟩
def L_tr (n : Nat) (v : Nat → Int) (a : Int) (g : Nat → MG) (c : Nat) : LSpec := fun st Q => canonIs te 1 [0, 5, 10, 11, 12] (ownNil 5 40 15 st) (S_tr n v g c ⟨0, [], a⟩) ∧ c ≤ 100 ∧ (0 ≤ a ∧ a ≤ 4611686018427365000) ∧
  ∀ i : TrS, i.L.length ≤ 2 * c → (a ≤ i.a ∧ i.a ≤ a + 2 * c) → (∀ x, x ∈ i.L ↔ x ∈ lst g c) → Q (.exit 0) ⟨[(5, .own 1 i.L.length)], [(0, .cells [.view 1 n (intRow v), .int .i64 i.a] 27), (1, .row 40 15 i.L.length (mgRow (atM i.L)) false)], 2, []⟩
end Go.Eng
