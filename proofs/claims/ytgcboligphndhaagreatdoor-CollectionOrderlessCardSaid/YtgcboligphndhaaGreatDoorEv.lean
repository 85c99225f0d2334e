/- Resolve's closures, and what looks for them. -/
import Derived.Test.YtgcboligphndhaaGreatDoorEp
import Derived.Test.YtgcboligphndhaaGreatDoorEu
import Derived.Test.YtgcboligphndhaaGreatDoorEs
namespace Go.Eng
open Go.Proofs Go.RowKit
variable {C : Ctx} [C.Loose]
set_option maxRecDepth 20000
theorem nf_right1 (m : MG) (es : List (AV × AV)) (R : AV → List (Nat × AObj) → Prop) : wpFn te [(63, .det S_mark)] [] 0 Tryz.f119 [.agg [.str m.dev, .int .i64 m.seq, .int .i64 m.kind, .str m.v.o, .str m.v.p, .int .i64 m.v.per, .int .i64 m.v.day, .int .i64 m.v.st, .int .i64 m.v.pr, .str m.v.rep, .str m.d.o, .str m.d.p, .int .i64 m.d.per, .str m.d.dev, .int .i64 m.d.num], .ptr 0 0] [.cells [.map 1] 85, .amap es] R = (letI z1 := mget es (.agg [.str (MG.dev m), .int .i64 (MG.seq m)]); letI z0 := (List.length [AObj.cells [.map 1] (85 : TypeId), .amap es]); True ∧ (KeysA (Env.te (Env.mk te [(63, CSpec.det S_mark)] [] z0 (Func.ntmps Tryz.f119) 0)) 83 es ∧ .int .i64 (intOf (Option.getD z1 (.int .i64 0))) = Option.getD z1 (.int .i64 0)) ∧ R (.bool (decide ((1 : Int) < intOf (Option.getD z1 (.int .i64 0))))) [(0, .cells [.map 1] 85), (1, .amap (List.map (fun (p : AV × AV) => (AV.rn (ren z0 []) (Prod.fst p), AV.rn (ren z0 []) (Prod.snd p))) es))]) := by kernel_rfl
theorem nf_ixr (es : List (AV × AV)) (g : Nat → MG) (n : Nat) (R : AV → List (Nat × AObj) → Prop) : wpFn te [(119, .det S_right1)] [(2, L_ixr es g n)] 0 Tryz.f70 [.own 0 n, .func 119 [.ptr 1 0]] [.row 40 15 n (mgRow g) false, .cells [.map 2] 85, .amap es] R = (letI z1 := (ren (List.length [AObj.row (40 : TypeId) 15 n (mgRow g) false, .cells [.map 2] (85 : TypeId), .amap es]) []); letI z0 := ([(0, .row 40 15 n (mgRow g) false), (1, .cells [.map 2] 85), (List.length [AObj.cells [.map 2] (85 : TypeId), .amap es], .amap (List.map (fun (p : AV × AV) => (AV.rn z1 (Prod.fst p), AV.rn z1 (Prod.snd p))) es))] : List (Nat × AObj)); (TEq [(0, .own 0 n), (1, .func 119 [.ptr 1 0]), (7, .int .i64 (↑n : Int)), (8, .int .i64 0)] [(0, .own 0 n), (1, .func 119 [.ptr 1 0]), (7, .int .i64 (↑n : Int)), (8, .int .i64 (↑0 : Int))] ∧ RowsEq [(0, .row 40 15 n (mgRow g) false), (1, .cells [.map 2] 85), (2, .amap (List.map (fun (p : AV × AV) => (AV.rn (ren 3 []) (Prod.fst p), AV.rn (ren 3 []) (Prod.snd p))) es))] [(0, .row 40 15 n (mgRow g) false), (1, .cells [.map 2] 85), (2, .amap es)]) ∧ n ≤ 1000000 ∧ EsOK es ∧ condP (decide (fstB (fun (i : Nat) => delF es (g i)) n < n)) ((∀ (i : Nat), i < n → true = true) ∧ ∃ (O' : List (Nat × AObj)), RowsEq z0 O' ∧ R (.int .i64 (↑(fstB (fun (i : Nat) => delF es (g i)) n) : Int)) O') ((∀ (i : Nat), i < n → true = true) ∧ ∃ (O' : List (Nat × AObj)), RowsEq z0 O' ∧ R (.int .i64 (-1 : Int)) O')) := by kernel_rfl
theorem nf_ixr_round (es : List (AV × AV)) (g : Nat → MG) (n k : Nat) (P : Nat → Prop) (R : Exit → St → Prop) : roundP ⟨te, [(119, .det S_right1)], [], 3, 19, 0⟩ (loopB Tryz.f70 2) [0, 1, 7, 8] [] [4] (S_ixr es g n) P R (S_ixr es g n k) = (letI z2 := (List.map (fun (p : AV × AV) => (AV.rn (idxN [1, 2]) (Prod.fst p), AV.rn (idxN [1, 2]) (Prod.snd p))) es); letI z1 := (g (Int.toNat (↑k : Int))); letI z0 := ([(0, .row 40 15 n (mgRow g) false), (1, .cells [.map 2] 85), (2, .amap (List.map (fun (p : AV × AV) => (AV.rn (ren 3 []) (Prod.fst p), AV.rn (ren 3 []) (Prod.snd p))) (List.map (fun (p : AV × AV) => (AV.rn (sig [1, 2] 3) (Prod.fst p), AV.rn (sig [1, 2] 3) (Prod.snd p))) z2)))] : List (Nat × AObj)); condP (decide ((↑k : Int) < (↑n : Int))) (((0 : Int) ≤ (↑k : Int) ∧ (↑k : Int) < (↑n : Int)) ∧ (Int.toNat (↑k : Int) < n ∧ 15 = 15) ∧ (85 = 85 ∧ EsOK z2) ∧ condP (delF z2 (MG.mk (MG.dev z1) (MG.seq z1) (MG.kind z1) (VT.mk (VT.o (MG.v z1)) (VT.p (MG.v z1)) (VT.per (MG.v z1)) (VT.day (MG.v z1)) (VT.st (MG.v z1)) (VT.pr (MG.v z1)) (VT.rep (MG.v z1))) (DT.mk (DT.o (MG.d z1)) (DT.p (MG.d z1)) (DT.per (MG.d z1)) (DT.dev (MG.d z1)) (DT.num (MG.d z1))))) ((∀ (i : Nat), i < n → true = true) ∧ ∃ (O' : List (Nat × AObj)), RowsEq z0 O' ∧ R .ret (St.mk [(4, .int .i64 (↑k : Int))] O' 3 [])) (inR .i64 ((↑k : Int) + (1 : Int)) ∧ ∃ (i' : Nat), (TEq [(0, .own 0 n), (1, .func 119 [.ptr 1 0]), (7, .int .i64 (↑n : Int)), (8, .int .i64 ((↑k : Int) + (1 : Int)))] [(0, .own 0 n), (1, .func 119 [.ptr 1 0]), (7, .int .i64 (↑n : Int)), (8, .int .i64 (↑i' : Int))] ∧ RowsEq z0 [(0, .row 40 15 n (mgRow g) false), (1, .cells [.map 2] 85), (2, .amap es)]) ∧ P i')) ((∀ (i : Nat), i < n → true = true) ∧ ∃ (O' : List (Nat × AObj)), RowsEq [(0, .row 40 15 n (mgRow g) false), (1, .cells [.map 2] 85), (2, .amap (List.map (fun (p : AV × AV) => (AV.rn (ren 3 []) (Prod.fst p), AV.rn (ren 3 []) (Prod.snd p))) es))] O' ∧ R (.exit 0) (St.mk [] O' 3 []))) := by kernel_rfl
theorem nf_df (es : List (AV × AV)) (g : Nat → MG) (n : Nat) (R : AV → List (Nat × AObj) → Prop) : wpFn te [(70, .det S_ixR)] [(5, L_df es g n (fstB (fun i => delF es (g i)) n))] 0 Tryz.f118 [.own 0 n, .func 119 [.ptr 1 0]] [.row 40 15 n (mgRow g) false, .cells [.map 2] 85, .amap es] R = (letI z5 := (fstB (fun (i : Nat) => delF es (g i)) n); letI z2 := (CI.mk (fstB (fun (i : Nat) => delF es (g i)) n + 1) z5 g); letI z1 := (ren (List.length [AObj.row (40 : TypeId) 15 n (mgRow g) false, .cells [.map 2] (85 : TypeId), .amap es]) []); letI z0 := (List.map (fun (p : AV × AV) => (AV.rn (idxN [0, 1, 2]) (Prod.fst p), AV.rn (idxN [0, 1, 2]) (Prod.snd p))) es); letI z4 := (ixB (fun (i : Nat) => delF z0 (mgOf (mgRow g) i)) n + (1 : Int)); letI z3 := (List.map (fun (p : AV × AV) => (AV.rn (sig [0, 1, 2] 3) (Prod.fst p), AV.rn (sig [0, 1, 2] 3) (Prod.snd p))) z0); (∀ (i : Nat), i < n → true = true) ∧ (40 = 40 ∧ 85 = 85 ∧ false = false ∧ n = n ∧ n ≤ 1000000 ∧ mgRow g = mgRow (mgOf (mgRow g)) ∧ EsOK z0) ∧ (∀ (i : Nat), i < n → true = true) ∧ condP (decide (ixB (fun (i : Nat) => delF z0 (mgOf (mgRow g) i)) n = (-1 : Int))) ((∀ (i : Nat), i < n → true = true) ∧ ∃ (O' : List (Nat × AObj)), RowsEq [(0, .row 40 15 n (mgRow g) false), (1, .cells [.map 2] 85), (List.length [AObj.cells [.map 2] (85 : TypeId), .amap es], .amap (List.map (fun (p : AV × AV) => (AV.rn z1 (Prod.fst p), AV.rn z1 (Prod.snd p))) z3))] O' ∧ R (.own 0 n) O') (inR .i64 z4 ∧ (TEq [(0, .own 0 n), (1, .func 119 [.ptr 1 0]), (5, .int .i64 (ixB (fun (i : Nat) => delF z0 (mgOf (mgRow g) i)) n)), (6, .int .i64 z4)] [(0, .own 0 n), (1, .func 119 [.ptr 1 0]), (5, .int .i64 (↑(CI.w z2) : Int)), (6, .int .i64 (↑(CI.k z2) : Int))] ∧ RowsEq [(0, .row 40 15 n (mgRow g) false), (1, .cells [.map 2] 85), (2, .amap (List.map (fun (p : AV × AV) => (AV.rn (ren 3 []) (Prod.fst p), AV.rn (ren 3 []) (Prod.snd p))) z3))] [(0, .row 40 15 n (mgRow (CI.h z2)) false), (1, .cells [.map 2] 85), (2, .amap es)]) ∧ (fstB (fun (i : Nat) => delF es (g i)) n < n ∧ n ≤ 1000000) ∧ EsOK es ∧ (∀ (j : Nat), j < fstB (fun (i : Nat) => delF es (g i)) n → delF es (g j) = false) ∧ delF es (g z5) = true ∧ ∀ (w : Nat) (h : Nat → MG), w ≤ n → lst h w = kpL es g n → ((0 : Int) ≤ (↑w : Int) ∧ (↑w : Int) ≤ (↑n : Int)) ∧ Int.toNat (↑w : Int) ≤ n ∧ ((0 : Int) ≤ (↑w : Int) ∧ (↑w : Int) ≤ (↑n : Int)) ∧ (∀ (i : Nat), i < Int.toNat (↑w : Int) → true = true) ∧ ∃ (O' : List (Nat × AObj)), RowsEq [(0, .row 40 15 (Int.toNat (↑w : Int)) (mgRow h) false), (1, .cells [.map 2] 85), (List.length [AObj.cells [.map 2] (85 : TypeId), .amap es], .amap (List.map (fun (p : AV × AV) => (AV.rn z1 (Prod.fst p), AV.rn z1 (Prod.snd p))) es))] O' ∧ R (.own 0 (Int.toNat (↑w : Int))) O')) := by kernel_rfl
theorem nf_df_round (es : List (AV × AV)) (n : Nat) (i : CI) (P : CI → Prop) (R : Exit → St → Prop) : roundP ⟨te, [(119, .det S_right1)], [], 3, 42, 0⟩ (loopB Tryz.f118 5) [0, 1, 5, 6] [0, 5] [] (S_df es n) P R (S_df es n i) = (letI z1 := (List.map (fun (p : AV × AV) => (AV.rn (idxN [1, 2]) (Prod.fst p), AV.rn (idxN [1, 2]) (Prod.snd p))) es); letI z2 := (List.map (fun (p : AV × AV) => (AV.rn (ren 3 []) (Prod.fst p), AV.rn (ren 3 []) (Prod.snd p))) (List.map (fun (p : AV × AV) => (AV.rn (sig [1, 2] 5) (Prod.fst p), AV.rn (sig [1, 2] 5) (Prod.snd p))) z1)); letI z0 := (CI.h i (Int.toNat (↑(CI.k i) : Int))); condP (decide ((↑(CI.k i) : Int) < (↑n : Int))) (((0 : Int) ≤ (↑(CI.k i) : Int) ∧ (↑(CI.k i) : Int) < (↑n : Int)) ∧ (Int.toNat (↑(CI.k i) : Int) < n ∧ 15 = 15) ∧ (85 = 85 ∧ EsOK z1) ∧ condP (!delF z1 (MG.mk (MG.dev z0) (MG.seq z0) (MG.kind z0) (VT.mk (VT.o (MG.v z0)) (VT.p (MG.v z0)) (VT.per (MG.v z0)) (VT.day (MG.v z0)) (VT.st (MG.v z0)) (VT.pr (MG.v z0)) (VT.rep (MG.v z0))) (DT.mk (DT.o (MG.d z0)) (DT.p (MG.d z0)) (DT.per (MG.d z0)) (DT.dev (MG.d z0)) (DT.num (MG.d z0))))) (((0 : Int) ≤ (↑(CI.w i) : Int) ∧ (↑(CI.w i) : Int) < (↑n : Int)) ∧ (List.length [AV.str (MG.dev z0), .int .i64 (MG.seq z0), .int .i64 (MG.kind z0), .str (VT.o (MG.v z0)), .str (VT.p (MG.v z0)), .int .i64 (VT.per (MG.v z0)), .int .i64 (VT.day (MG.v z0)), .int .i64 (VT.st (MG.v z0)), .int .i64 (VT.pr (MG.v z0)), .str (VT.rep (MG.v z0)), .str (DT.o (MG.d z0)), .str (DT.p (MG.d z0)), .int .i64 (DT.per (MG.d z0)), .str (DT.dev (MG.d z0)), .int .i64 (DT.num (MG.d z0))] = 15 ∧ Int.toNat (↑(CI.w i) : Int) < n ∧ 15 = 15) ∧ inR .i64 ((↑(CI.w i) : Int) + (1 : Int)) ∧ inR .i64 ((↑(CI.k i) : Int) + (1 : Int)) ∧ ∃ (i' : CI), (TEq [(0, .own 0 n), (1, .func 119 [.ptr 1 0]), (5, .int .i64 ((↑(CI.w i) : Int) + (1 : Int))), (6, .int .i64 ((↑(CI.k i) : Int) + (1 : Int)))] [(0, .own 0 n), (1, .func 119 [.ptr 1 0]), (5, .int .i64 (↑(CI.w i') : Int)), (6, .int .i64 (↑(CI.k i') : Int))] ∧ RowsEq [(0, .row 40 15 n (fun (k : Nat) => if k = Int.toNat (↑(CI.w i) : Int) then [.str (MG.dev z0), .int .i64 (MG.seq z0), .int .i64 (MG.kind z0), .str (VT.o (MG.v z0)), .str (VT.p (MG.v z0)), .int .i64 (VT.per (MG.v z0)), .int .i64 (VT.day (MG.v z0)), .int .i64 (VT.st (MG.v z0)), .int .i64 (VT.pr (MG.v z0)), .str (VT.rep (MG.v z0)), .str (DT.o (MG.d z0)), .str (DT.p (MG.d z0)), .int .i64 (DT.per (MG.d z0)), .str (DT.dev (MG.d z0)), .int .i64 (DT.num (MG.d z0))] else mgRow (CI.h i) k) false), (1, .cells [.map 2] 85), (2, .amap z2)] [(0, .row 40 15 n (mgRow (CI.h i')) false), (1, .cells [.map 2] 85), (2, .amap es)]) ∧ P i') (inR .i64 ((↑(CI.k i) : Int) + (1 : Int)) ∧ ∃ (i' : CI), (TEq [(0, .own 0 n), (1, .func 119 [.ptr 1 0]), (5, .int .i64 (↑(CI.w i) : Int)), (6, .int .i64 ((↑(CI.k i) : Int) + (1 : Int)))] [(0, .own 0 n), (1, .func 119 [.ptr 1 0]), (5, .int .i64 (↑(CI.w i') : Int)), (6, .int .i64 (↑(CI.k i') : Int))] ∧ RowsEq [(0, .row 40 15 n (mgRow (CI.h i)) false), (1, .cells [.map 2] 85), (2, .amap z2)] [(0, .row 40 15 n (mgRow (CI.h i')) false), (1, .cells [.map 2] 85), (2, .amap es)]) ∧ P i')) ((∀ (i : Nat), i < n → true = true) ∧ ∃ (O' : List (Nat × AObj)), RowsEq [(0, .row 40 15 n (mgRow (CI.h i)) false), (1, .cells [.map 2] 85), (2, .amap (List.map (fun (p : AV × AV) => (AV.rn (ren 3 []) (Prod.fst p), AV.rn (ren 3 []) (Prod.snd p))) es))] O' ∧ R (.exit 0) (St.mk [(0, .own 0 n), (5, .int .i64 (↑(CI.w i) : Int))] O' 3 []))) := by kernel_rfl
theorem right1_ok (hP : C.P = Tryz.prog) : SpecOK C 119 S_right1 := by
  rintro args objs U Os vc h hvc
  unfold S_right1 at h
  split at h <;> simp only [Option.some.injEq, Prod.mk.injEq, reduceCtorEq] at h
  rename_i dev seq kind o p per day st pr rep o' p' per' dev' num t es
  obtain ⟨rfl, rfl, rfl⟩ := h
  obtain ⟨rfl, L, rfl, hnd⟩ := hvc
  refine SpecOK.wp0 (prg hP) [(63, .det S_mark)] 0 (.cons (mark_ok hP) .nil) (hP ▸ Tryz.func119) rfl rfl rfl ?_
  have hn := nf_right1 ⟨dev, seq, kind, ⟨o, p, per, day, st, pr, rep⟩, ⟨o', p', per', dev', num⟩⟩ (entM L)
  dsimp only at hn
  rw [hn, entM_rn]
  have F1 : Option.getD (mget (entM L) (.agg [.str dev, .int .i64 seq])) (.int .i64 0) = .int .i64 (getC L (dev, seq)) := mget_entM (dev, seq) L
  refine ⟨trivial, ⟨entM_keys hnd, ?_⟩, rfl, rfl⟩
  rw [F1]; rfl
theorem ixr_loop (hP : C.P = Tryz.prog) (es : List (AV × AV)) (g : Nat → MG) (n : Nat) : LoopOK C 3 19 (loopC Tryz.f70 2) (L_ixr es g n) := by
  rintro st Q ⟨h0, hn, ⟨L, rfl, hnd⟩, hQ⟩
  have hR := condP_elim hQ
  refine LoopOK.mk (prg hP) [(119, .det S_right1)] 0 (.cons (right1_ok hP) .nil) [0, 1, 7, 8] [] [4] (S_ixr (entM L) g n) (fun k => k ≤ n ∧ fstB (fun i => delF (entM L) (g i)) k = k) (fun k => n - k) 0 ⟨Nat.zero_le _, rfl⟩ h0 (fun k hk => ?_) (fun i => ⟨fun _ _ => rfl, trivial⟩)
  obtain ⟨hkn, hok⟩ := hk
  rw [nf_ixr_round, Int.toNat_natCast]
  repeat rw [entM_rn]
  refine condP_dec (fun h1 => ?_) (fun h1 => ?_)
  · refine ⟨⟨by omega, by omega⟩, ⟨by omega, rfl⟩, ⟨rfl, L, rfl, hnd⟩, condP_intro (fun h2 => ?_) (fun h2 => ⟨by simp only [inR]; omega, k + 1, ⟨rfl, ⟨rfl, rfl, rfl, rfl, rfl, fun _ _ => rfl⟩, rfl, rfl, trivial⟩, ⟨by omega, fstB_not hok h2⟩, by omega⟩)⟩
    have e := fstB_at hok h2 n (by omega)
    have := hR.1 (by rw [e, decide_eq_true]; omega)
    rw [e] at this
    exact ⟨fun _ _ => rfl, _, rowsEqR _, this⟩
  · have : k = n := by omega
    subst this
    exact ⟨fun _ _ => rfl, _, rowsEqR _, hR.2 (by rw [hok, decide_eq_false]; omega)⟩
theorem ixR_ok (hP : C.P = Tryz.prog) : SpecOK C 70 S_ixR := by
  rintro args objs U Os vc h hvc
  unfold S_ixR at h
  split at h <;> simp only [Option.some.injEq, Prod.mk.injEq, reduceCtorEq] at h
  rename_i n t m f fr t2 es
  obtain ⟨rfl, rfl, rfl⟩ := h
  obtain ⟨rfl, rfl, rfl, rfl, hn, hf, L, rfl, hnd⟩ := hvc
  generalize mgOf f = g at *
  subst hf
  refine SpecOK.wpL (prg hP) [(119, .det S_right1)] [(2, L_ixr (entM L) g n)] 0 (.cons (right1_ok hP) .nil) (hP ▸ Tryz.func70) rfl rfl rfl [(loopC Tryz.f70 2, L_ixr (entM L) g n)] (by kernel_rfl) ⟨ixr_loop hP _ g n, trivial⟩ ?_
  rw [nf_ixr]
  repeat rw [entM_rn]
  unfold ixB
  refine ⟨⟨rfl, ⟨rfl, rfl, rfl, rfl, rfl, fun _ _ => rfl⟩, rfl, rfl, trivial⟩, hn, ⟨L, rfl, hnd⟩, condP_dec (fun h => ?_) (fun h => ?_)⟩
  · rw [decide_eq_true h]; exact ⟨fun _ _ => rfl, _, rowsEqR _, rfl, rfl⟩
  · rw [decide_eq_false h]; exact ⟨fun _ _ => rfl, _, rowsEqR _, rfl, rfl⟩
theorem kpL_succ (es : List (AV × AV)) (g : Nat → MG) (k : Nat) : kpL es g (k + 1) = kpL es g k ++ bif delF es (g k) then [] else [g k] := by
  unfold kpL
  rw [lst_snocM, List.filter_append]
  cases h : delF es (g k) <;> simp [h]
theorem kpL_all {es : List (AV × AV)} {g : Nat → MG} : ∀ {k : Nat}, (∀ j, j < k → delF es (g j) = false) → kpL es g k = lst g k
  | 0, _ => rfl
  | k + 1, h => by
    rw [kpL_succ, kpL_all fun j hj => h j (by omega), h k (by omega), lst_snocM]; rfl
theorem df_loop (hP : C.P = Tryz.prog) (es : List (AV × AV)) (g : Nat → MG) (n i0 : Nat) : LoopOK C 3 42 (loopC Tryz.f118 5) (L_df es g n i0) := by
  rintro st Q ⟨h0, ⟨hi0, hn⟩, ⟨L, rfl, hnd⟩, hall, hdel, hQ⟩
  refine LoopOK.mk (prg hP) [(119, .det S_right1)] 0 (.cons (right1_ok hP) .nil) [0, 1, 5, 6] [0, 5] [] (S_df (entM L) n) (fun i => i.k ≤ n ∧ i.w < i.k ∧ lst i.h i.w = kpL (entM L) g i.k ∧ ∀ j, i.w ≤ j → i.h j = g j) (fun i => n - i.k) ⟨i0 + 1, i0, g⟩
    ⟨hi0, Nat.lt_succ_self _, ?_, fun _ _ => rfl⟩ h0 (fun i hi => ?_) (fun i => ⟨fun _ _ => rfl, trivial⟩)
  · show lst g i0 = kpL (entM L) g (i0 + 1)
    rw [kpL_succ, hdel, kpL_all hall]; simp
  obtain ⟨k, w, h⟩ := i
  obtain ⟨i1, i2, i3, i4⟩ := hi
  dsimp only at i1 i2 i3 i4
  rw [nf_df_round]
  dsimp only
  rw [Int.toNat_natCast, Int.toNat_natCast]
  repeat rw [entM_rn]
  refine condP_dec (fun h1 => ?_) (fun h1 => ?_)
  · have hk : k < n := by omega
    have r1 : h k = g k := i4 _ (by omega)
    refine ⟨⟨by omega, by omega⟩, ⟨by omega, rfl⟩, ⟨rfl, L, rfl, hnd⟩, condP_not (fun q => ?_) (fun q => ?_)⟩
    · have q : delF (entM L) (h k) = false := q
      rw [r1] at q
      refine ⟨⟨by omega, by omega⟩, ⟨rfl, by omega, rfl⟩, by simp only [inR]; omega, by simp only [inR]; omega, ⟨k + 1, w + 1, fun j => if j = w then h k else h j⟩, ⟨rfl, ⟨rfl, rfl, rfl, rfl, rfl, fun j hj => ?_⟩, rfl, rfl, trivial⟩, ⟨hk, ?_, ?_, fun j hj => ?_⟩, ?_⟩
      · unfold mgRow
        by_cases e : j = w
        · simp only [e, if_true]
        · simp only [e, if_false]
      · show w + 1 < k + 1
        omega
      · show lst (fun j => if j = w then h k else h j) (w + 1) = kpL (entM L) g (k + 1)
        have e : lst (fun j => if j = w then h k else h j) w = lst h w := List.map_congr_left fun j hj => by
          have := List.mem_range.1 hj
          rw [if_neg (by omega)]
        rw [lst_snocM, kpL_succ, q, e, i3, if_pos rfl, r1]; rfl
      · have hj : w + 1 ≤ j := hj
        show (if j = w then h k else h j) = g j
        rw [if_neg (by omega)]
        exact i4 j (by omega)
      · show n - (k + 1) < n - k
        omega
    · have q : delF (entM L) (h k) = true := q
      rw [r1] at q
      refine ⟨by simp only [inR]; omega, ⟨k + 1, w, h⟩, ⟨rfl, ⟨rfl, rfl, rfl, rfl, rfl, fun _ _ => rfl⟩, rfl, rfl, trivial⟩, ⟨hk, ?_, ?_, i4⟩, ?_⟩
      · show w < k + 1
        omega
      · show lst h w = kpL (entM L) g (k + 1)
        rw [kpL_succ, q, i3]; simp
      · show n - (k + 1) < n - k
        omega
  · have : k = n := by omega
    subst this
    exact ⟨fun _ _ => rfl, _, rowsEqR _, hQ w h (by omega) i3⟩
theorem delF_ok (hP : C.P = Tryz.prog) : RSpecOK C 118 R_delF := by
  rintro args objs R h
  unfold R_delF at h
  split at h
  · rename_i n t m f fr t2 es
    obtain ⟨rfl, rfl, rfl, rfl, hn, hf, ⟨L, rfl, hnd⟩, hR⟩ := h
    generalize mgOf f = g at *
    subst hf
    refine RSpecOK.wpL (prg hP) [(70, .det S_ixR)] [(5, L_df (entM L) g n (fstB (fun i => delF (entM L) (g i)) n))] 0 (.cons (ixR_ok hP) .nil) (hP ▸ Tryz.func118) rfl rfl rfl [(loopC Tryz.f118 5, L_df (entM L) g n (fstB (fun i => delF (entM L) (g i)) n))] (by kernel_rfl) ⟨df_loop hP _ g n _, trivial⟩ ?_
    rw [nf_df]
    repeat rw [entM_rn]
    have hg : mgOf (mgRow g) = g := rfl
    rw [hg]
    obtain ⟨f1, f2⟩ := fstB_spec (fun i => delF (entM L) (g i)) n
    have fle := fstB_le (fun i => delF (entM L) (g i)) n
    by_cases hlt : fstB (fun i => delF (entM L) (g i)) n < n
    · have hix : ixB (fun i => delF (entM L) (g i)) n = (fstB (fun i => delF (entM L) (g i)) n : Int) := by unfold ixB; rw [decide_eq_true hlt]; rfl
      rw [hix]
      have f2 := f2 hlt
      generalize fstB (fun i => delF (entM L) (g i)) n = i0 at *
      refine ⟨fun _ _ => rfl, ⟨rfl, rfl, rfl, rfl, hn, rfl, L, rfl, hnd⟩, fun _ _ => rfl, condP_dec (fun q => absurd q (by omega)) (fun _ => ⟨by simp only [inR]; omega, ⟨rfl, ⟨rfl, rfl, rfl, rfl, rfl, fun _ _ => rfl⟩, rfl, rfl, trivial⟩, ⟨hlt, hn⟩, ⟨L, rfl, hnd⟩, f1, f2, fun w h hw hl => ?_⟩)⟩
      rw [Int.toNat_natCast]
      exact ⟨⟨by omega, by omega⟩, hw, ⟨by omega, by omega⟩, fun _ _ => rfl, _, rowsEqR _, hR w h hl⟩
    · have hix : ixB (fun i => delF (entM L) (g i)) n = -1 := by unfold ixB; rw [decide_eq_false hlt]; rfl
      rw [hix]
      have e0 : fstB (fun i => delF (entM L) (g i)) n = n := by omega
      rw [e0] at f1
      exact ⟨fun _ _ => rfl, ⟨rfl, rfl, rfl, rfl, hn, rfl, L, rfl, hnd⟩, fun _ _ => rfl, condP_dec (fun _ => ⟨fun _ _ => rfl, _, rowsEqR _, hR n g (kpL_all f1).symm⟩) (fun q => absurd rfl q)⟩
  · exact h.elim
end Go.Eng
namespace Go.Eng
open Go.Proofs Go.RowKit
variable {C : Ctx} [C.Loose]
set_option maxRecDepth 20000
theorem nf_right (g : Nat → MG) (n : Nat) (R : AV → List (Nat × AObj) → Prop) : wpFn te [(61, .det S_mrgN), (62, .det S_counts), (118, .rel R_delF)] [] 0 Tryz.f66 [.view 15 n (mgRow g)] [] R = (letI z0 := mrgL (mgOf (mgRow g)) n noM 0; letI z2 := mgOf (mgRow (atM z0)); letI z1 := (List.map (fun (p : AV × AV) => (AV.rn (idxN [0, 32, 16]) (Prod.fst p), AV.rn (idxN [0, 32, 16]) (Prod.snd p))) (List.map (fun (p : AV × AV) => (AV.rn (sig [0] 16) (Prod.fst p), AV.rn (sig [0] 16) (Prod.snd p))) (entM (cntL z2 (List.length z0))))); (n ≤ 100000 ∧ mgRow g = mgRow (mgOf (mgRow g)) ∧ ∀ (i : Nat), i < n → MG.Sm (mgOf (mgRow g) i)) ∧ (∀ (i : Nat), i < List.length z0 → true = true) ∧ (∀ (i : Nat), i < List.length z0 → true = true) ∧ (40 = 40 ∧ false = false ∧ List.length z0 = List.length z0 ∧ List.length z0 ≤ 1000000 ∧ mgRow (atM z0) = mgRow z2) ∧ (∀ (i : Nat), i < List.length z0 → true = true) ∧ (∀ (i : Nat), i < List.length z0 → true = true) ∧ 40 = 40 ∧ 85 = 85 ∧ false = false ∧ List.length z0 = List.length z0 ∧ List.length z0 ≤ 1000000 ∧ mgRow (atM z0) = mgRow z2 ∧ EsOK z1 ∧ ∀ (k : Nat) (h : Nat → MG), lst h k = kpL z1 z2 (List.length z0) → (∀ (i : Nat), i < k → true = true) ∧ (∀ (i : Nat), i < k → true = true) ∧ ∃ (O' : List (Nat × AObj)), RowsEq [(0, .row 40 15 k (mgRow h) false)] O' ∧ R (.own 0 k) O') := by kernel_rfl
theorem mrgN_ok (hP : C.P = Tryz.prog) (hL : ∀ w, C.laid w → LaidW w) : SpecOK C 61 S_mrgN := by
  rintro args objs U Os vc h hvc
  unfold S_mrgN at h
  split at h <;> simp only [Option.some.injEq, Prod.mk.injEq, reduceCtorEq] at h
  rename_i n f
  obtain ⟨rfl, rfl, rfl⟩ := h
  obtain ⟨hn, hf, hs⟩ := hvc
  refine ACalls.nilArg 15 (mgRow noM) ?_
  exact mrg_ok hP hL _ _ _ _ _ rfl ⟨hn, Nat.zero_le _, hf, rfl, hs, fun i hi => absurd hi (Nat.not_lt_zero i)⟩
theorem cntE_entM (L : List ((List UInt8 × Int) × Int)) (x : MG) : cntE (entM L) x = getC L (mk2 x) := by
  unfold cntE
  have F1 : Option.getD (mget (entM L) (.agg [.str x.dev, .int .i64 x.seq])) (.int .i64 0) = .int .i64 (getC L (mk2 x)) := mget_entM (mk2 x) L
  rw [F1]; rfl
theorem mrgL_len (g : Nat → MG) (n : Nat) (h : Nat → MG) (m : Nat) : (mrgL g n h m).length ≤ n + m := by
  have := mrgF_len (lst g n ++ lst h m)
  have e : (lst g n ++ lst h m).length = n + m := by simp [lst]
  unfold mrgL; omega
theorem right_ok (hP : C.P = Tryz.prog) (hL : ∀ w, C.laid w → LaidW w) : SpecOK C 66 S_right := by
  rintro args objs U Os vc h hvc
  unfold S_right at h
  split at h <;> simp only [Option.some.injEq, Prod.mk.injEq, reduceCtorEq] at h
  rename_i n f
  obtain ⟨rfl, rfl, rfl⟩ := h
  obtain ⟨hn, hf, hs⟩ := hvc
  generalize mgOf f = g at *
  subst hf
  refine ACalls.frzO 0 ?_
  refine RSpecOK.wpL (prg hP) [(61, .det S_mrgN), (62, .det S_counts), (118, .rel R_delF)] [] 0 (.cons (mrgN_ok hP hL) (.cons (counts_ok hP) (.cons (delF_ok hP) .nil))) (hP ▸ Tryz.func66) rfl rfl rfl [] (by kernel_rfl) trivial ?_
  rw [nf_right]
  repeat rw [entM_rn]
  have hlen := mrgL_len g n noM 0
  have hM : mrgL (mgOf (mgRow g)) n noM 0 = mrgL g n noM 0 := rfl
  have hR : rightL g n = (mrgL g n noM 0).filter fun x => !decide (1 < numC (atM (mrgL g n noM 0)) (mk2 x) (mrgL g n noM 0).length) := rfl
  rw [hM]
  generalize mrgL g n noM 0 = M at *
  refine ⟨⟨hn, rfl, hs⟩, fun _ _ => rfl, fun _ _ => rfl, ⟨rfl, rfl, rfl, by omega, rfl⟩, fun _ _ => rfl, fun _ _ => rfl, rfl, rfl, rfl, rfl, by omega, rfl, ⟨cntL (atM M) M.length, rfl, cntL_nodup _ _⟩, fun k h hd => ?_⟩
  have hd : lst h k = kpL (entM (cntL (atM M) M.length)) (atM M) M.length := hd
  have e : kpL (entM (cntL (atM M) M.length)) (atM M) M.length = rightL g n := by
    unfold kpL
    rw [lst_atM, hR]
    refine List.filter_congr fun x _ => ?_
    unfold delF
    rw [cntE_entM, getC_cntL]
  rw [e] at hd
  generalize rightL g n = L at *
  obtain ⟨rfl, hat⟩ := lst_isM hd
  refine ⟨fun _ _ => rfl, fun _ _ => rfl, [(0, .row 40 15 L.length (mgRow (atM L)) false)], ⟨⟨rfl, rfl, rfl, rfl, rfl, fun i hi => ?_⟩, trivial⟩, fun _ _ => rfl, ?_⟩
  · unfold mgRow
    rw [hat i hi]
  · have hb : Nat.ble L.length L.length = true := Nat.ble_eq_true_of_le (Nat.le_refl _)
    constructor
    · simp [frzC, frzA, frz, hb]
    · rfl
end Go.Eng
namespace Go.Eng
open Go.Proofs Go.RowKit
variable {C : Ctx} [C.Loose]
set_option maxRecDepth 20000
theorem nf_cand (o p : List UInt8) (per : Int) (g : Nat → MG) (n : Nat) (R : AV → List (Nat × AObj) → Prop) : wpFn te [] [(3, L_cnd o p per g n)] 0 Tryz.f67 [.view 15 n (mgRow g), .str o, .str p, .int .i64 per] [] R = (letI z0 := canL o p per g n; (TEq [(1, .str o), (2, .str p), (3, .int .i64 per), (9, .own 0 0), (13, .view 15 n (mgRow g)), (14, .int .i64 (↑n : Int)), (15, .int .i64 0)] [(1, .str o), (2, .str p), (3, .int .i64 per), (9, .own 0 0), (13, .view 15 n (mgRow g)), (14, .int .i64 (↑n : Int)), (15, .int .i64 (↑0 : Int))] ∧ RowsEq [(0, .row 40 15 0 (fun (_x : Nat) => []) false)] [(0, .row 40 15 0 (mgRow (atM (canL o p per g 0))) false)]) ∧ n ≤ 1000000 ∧ (∀ (i : Nat), i < List.length z0 → true = true) ∧ ∃ (O' : List (Nat × AObj)), RowsEq [(0, .row 40 15 (List.length z0) (mgRow (atM z0)) false)] O' ∧ R (.own 0 (List.length z0)) O') := by kernel_rfl
theorem nf_cd2_round (o p : List UInt8) (per : Int) (g : Nat → MG) (n k : Nat) (P : Nat → Prop) (R : Exit → St → Prop) : roundP ⟨te, [], [], 0, 68, 0⟩ (loopB Tryz.f67 3) [1, 2, 3, 9, 13, 14, 15] [9] [] (S_cnd o p per g n) P R (S_cnd o p per g n k) = (letI z3 := (g (Int.toNat (↑k : Int))); letI z2 := canL o p per g k; letI z9 := List.length z2 + 1; letI z8 := ([(0, .row 40 15 (List.length z2) (mgRow (atM z2)) false)] : List (Nat × AObj)); letI z5 := ([(1, .str o), (2, .str p), (3, .int .i64 per), (9, .own 0 z9), (13, .view 15 n (mgRow g)), (14, .int .i64 (↑n : Int)), (15, .int .i64 ((↑k : Int) + (1 : Int)))] : List (Nat × AV)); letI z4 := (↑(List.length z2) : Int); letI z7 := (Int.toNat (z4 - (1 : Int)) + 1); letI z1 := (chunkA (TI.sz shrtE0) (.str (MG.dev z3) :: .int .i64 (MG.seq z3) :: .int .i64 (MG.kind z3) :: .str (VT.o (MG.v z3)) :: .str (VT.p (MG.v z3)) :: .int .i64 (VT.per (MG.v z3)) :: .int .i64 (VT.day (MG.v z3)) :: .int .i64 (VT.st (MG.v z3)) :: .int .i64 (VT.pr (MG.v z3)) :: .str (VT.rep (MG.v z3)) :: .str (DT.o (MG.d z3)) :: .str (DT.p (MG.d z3)) :: .int .i64 (DT.per (MG.d z3)) :: .str (DT.dev (MG.d z3)) :: .int .i64 (DT.num (MG.d z3)) :: List.append [] shrtE1)); letI z6 := ([(0, .row 40 15 z9 (apF (List.length z2) (mgRow (atM z2)) z1) false)] : List (Nat × AObj)); letI z0 := (inR .i64 ((↑k : Int) + (1 : Int)) ∧ ∃ (i' : Nat), (TEq [(1, .str o), (2, .str p), (3, .int .i64 per), (9, .own 0 (List.length z2)), (13, .view 15 n (mgRow g)), (14, .int .i64 (↑n : Int)), (15, .int .i64 ((↑k : Int) + (1 : Int)))] [(1, .str o), (2, .str p), (3, .int .i64 per), (9, .own 0 (List.length (canL o p per g i'))), (13, .view 15 n (mgRow g)), (14, .int .i64 (↑n : Int)), (15, .int .i64 (↑i' : Int))] ∧ RowsEq z8 [(0, .row 40 15 (List.length (canL o p per g i')) (mgRow (atM (canL o p per g i'))) false)]) ∧ P i'); condP (decide ((↑k : Int) < (↑n : Int))) (((0 : Int) ≤ (↑k : Int) ∧ (↑k : Int) < (↑n : Int) ∧ 15 = 15) ∧ condP (!decide (MG.kind z3 = (1 : Int))) z0 (condP (!decide (VT.o (MG.v z3) = o)) z0 (condP (!decide (VT.p (MG.v z3) = p)) z0 (condP (!decide (VT.per (MG.v z3) = per)) z0 (condP (decide ((0 : Int) < z4)) (inR .i64 (z4 - (1 : Int)) ∧ ((0 : Int) ≤ z4 - (1 : Int) ∧ z4 - (1 : Int) < z4) ∧ (Int.toNat (z4 - (1 : Int)) < List.length z2 ∧ 15 = 15) ∧ condP (decide (MG.dev (atM z2 (Int.toNat (z4 - (1 : Int)))) = MG.dev z3)) (inR .i64 (z4 - (1 : Int)) ∧ ((0 : Int) ≤ z4 - (1 : Int) ∧ z4 - (1 : Int) ≤ z4) ∧ (15 ≤ 16777216 ∧ 15 = 15 ∧ 1 ≤ 9223372036854775807) ∧ ((1 ≤ 1 ∧ 15 = 15) ∧ Int.toNat (z4 - (1 : Int)) ≤ List.length z2 ∧ 15 = 15 ∧ 40 = 40 ∧ 15 = 15 ∧ Int.toNat (z4 - (1 : Int)) + 1 ≤ 9223372036854775807 ∧ z7 * TI.bytes shrtE0 ≤ 140737488355328) ∧ inR .i64 ((↑k : Int) + (1 : Int)) ∧ ∃ (i' : Nat), (TEq [(1, .str o), (2, .str p), (3, .int .i64 per), (9, .own 0 z7), (13, .view 15 n (mgRow g)), (14, .int .i64 (↑n : Int)), (15, .int .i64 ((↑k : Int) + (1 : Int)))] [(1, .str o), (2, .str p), (3, .int .i64 per), (9, .own 0 (List.length (canL o p per g i'))), (13, .view 15 n (mgRow g)), (14, .int .i64 (↑n : Int)), (15, .int .i64 (↑i' : Int))] ∧ RowsEq [(0, .row 40 15 z7 (apF (Int.toNat (z4 - (1 : Int))) (mgRow (atM z2)) z1) false)] [(0, .row 40 15 (List.length (canL o p per g i')) (mgRow (atM (canL o p per g i'))) false)]) ∧ P i') ((15 ≤ 16777216 ∧ 15 = 15 ∧ 1 ≤ 9223372036854775807) ∧ ((1 ≤ 1 ∧ 15 = 15) ∧ List.length z2 ≤ List.length z2 ∧ 15 = 15 ∧ 40 = 40 ∧ 15 = 15 ∧ List.length z2 + 1 ≤ 9223372036854775807 ∧ z9 * TI.bytes shrtE0 ≤ 140737488355328) ∧ inR .i64 ((↑k : Int) + (1 : Int)) ∧ ∃ (i' : Nat), (TEq z5 [(1, .str o), (2, .str p), (3, .int .i64 per), (9, .own 0 (List.length (canL o p per g i'))), (13, .view 15 n (mgRow g)), (14, .int .i64 (↑n : Int)), (15, .int .i64 (↑i' : Int))] ∧ RowsEq z6 [(0, .row 40 15 (List.length (canL o p per g i')) (mgRow (atM (canL o p per g i'))) false)]) ∧ P i')) ((15 ≤ 16777216 ∧ 15 = 15 ∧ 1 ≤ 9223372036854775807) ∧ ((1 ≤ 1 ∧ 15 = 15) ∧ List.length z2 ≤ List.length z2 ∧ 15 = 15 ∧ 40 = 40 ∧ 15 = 15 ∧ List.length z2 + 1 ≤ 9223372036854775807 ∧ z9 * TI.bytes shrtE0 ≤ 140737488355328) ∧ inR .i64 ((↑k : Int) + (1 : Int)) ∧ ∃ (i' : Nat), (TEq z5 [(1, .str o), (2, .str p), (3, .int .i64 per), (9, .own 0 (List.length (canL o p per g i'))), (13, .view 15 n (mgRow g)), (14, .int .i64 (↑n : Int)), (15, .int .i64 (↑i' : Int))] ∧ RowsEq z6 [(0, .row 40 15 (List.length (canL o p per g i')) (mgRow (atM (canL o p per g i'))) false)]) ∧ P i')))))) ((∀ (i : Nat), i < List.length z2 → true = true) ∧ ∃ (O' : List (Nat × AObj)), RowsEq z8 O' ∧ R (.exit 0) (St.mk [(9, .own 0 (List.length z2))] O' 1 []))) := by kernel_rfl
theorem snocM {L : List MG} {m : MG} {t : Nat} (ht : t ≤ L.length) (ch : Nat → List AV) (hch : ch 0 = mgC m) (j : Nat) (hj : j < t + 1) : apF t (mgRow (atM L)) ch j = mgRow (atM (L.take t ++ [m])) j := by
  have hl : (L.take t).length = t := by simp [ht]
  unfold apF
  by_cases h : j < t
  · rw [if_pos h]
    have e : atM (L.take t ++ [m]) j = atM L j := by
      unfold atM
      rw [List.getD_eq_getElem?_getD, List.getD_eq_getElem?_getD, List.getElem?_append_left (by omega), List.getElem?_take, if_pos h]
    unfold mgRow
    rw [e]
  · have : j = t := by omega
    subst this
    rw [if_neg h, Nat.sub_self, hch]
    have e : atM (L.take j ++ [m]) j = m := by
      unfold atM
      rw [List.getD_eq_getElem?_getD, List.getElem?_append_right (by omega), hl, Nat.sub_self]; rfl
    unfold mgRow
    rw [e]; rfl
theorem stpC_len (L : List MG) (m : MG) : (stpC L m).length ≤ L.length + 1 := by
  unfold stpC
  cases decide (0 < L.length) && decide ((atM L (L.length - 1)).dev = m.dev) with
  | true => simp
  | false => simp
theorem canL_len (o p : List UInt8) (per : Int) (g : Nat → MG) : ∀ k, (canL o p per g k).length ≤ k
  | 0 => Nat.le_refl _
  | k + 1 => by
    have ih := canL_len o p per g k
    rw [canL]
    cases selF o p per (g k) with
    | true => have := stpC_len (canL o p per g k) (g k); show (stpC _ _).length ≤ _; omega
    | false => show (canL o p per g k).length ≤ _; omega
theorem cnd_loop (hP : C.P = Tryz.prog) (o p : List UInt8) (per : Int) (g : Nat → MG) (n : Nat) : LoopOK C 0 68 (loopC Tryz.f67 3) (L_cnd o p per g n) := by
  have _ : C.Loose := inferInstance
  rintro st Q ⟨h0, hn, hQ⟩
  refine AWP.ownNil 9 40 15 ?_
  refine LoopOK.mk (prg hP) [] 0 .nil [1, 2, 3, 9, 13, 14, 15] [9] [] (S_cnd o p per g n) (fun k => k ≤ n) (fun k => n - k) 0 (Nat.zero_le _) h0 (fun k hk => ?_) (fun i => ⟨fun _ _ => rfl, trivial⟩)
  have hlen := canL_len o p per g k
  rw [nf_cd2_round, Int.toNat_natCast]
  have skip : selF o p per (g k) = false → canL o p per g (k + 1) = canL o p per g k := fun h => by rw [canL, h]; rfl
  have go : selF o p per (g k) = true → canL o p per g (k + 1) = stpC (canL o p per g k) (g k) := fun h => by rw [canL, h]; rfl
  generalize hC : canL o p per g k = L at *
  have no : k < n → selF o p per (g k) = false → inR .i64 ((k : Int) + 1) ∧ ∃ i' : Nat, (TEq [(1, .str o), (2, .str p), (3, .int .i64 per), (9, .own 0 L.length), (13, .view 15 n (mgRow g)), (14, .int .i64 (n : Int)), (15, .int .i64 ((k : Int) + 1))] [(1, .str o), (2, .str p), (3, .int .i64 per), (9, .own 0 (canL o p per g i').length), (13, .view 15 n (mgRow g)), (14, .int .i64 (n : Int)), (15, .int .i64 (i' : Int))] ∧
      RowsEq [(0, .row 40 15 L.length (mgRow (atM L)) false)] [(0, .row 40 15 (canL o p per g i').length (mgRow (atM (canL o p per g i'))) false)]) ∧ (i' ≤ n ∧ n - i' < n - k) := fun hk' h => by
    refine ⟨by simp only [inR]; omega, k + 1, ?_, by omega, by omega⟩
    rw [skip h]
    exact ⟨rfl, ⟨rfl, rfl, rfl, rfl, rfl, fun _ _ => rfl⟩, trivial⟩
  refine condP_dec (fun h1 => ⟨⟨by omega, by omega, rfl⟩, condP_ndec (fun q => no (by omega) (by unfold selF; rw [decide_eq_false q]; rfl)) (fun q1 => condP_ndec (fun q => no (by omega) (by unfold selF; rw [decide_eq_true q1, decide_eq_false q]; rfl)) (fun q2 => condP_ndec (fun q => no (by omega) (by unfold selF; rw [decide_eq_true q1, decide_eq_true q2, decide_eq_false q]; rfl)) (fun q3 => condP_ndec (fun q => no (by omega) (by unfold selF; rw [decide_eq_true q1, decide_eq_true q2, decide_eq_true q3, decide_eq_false q]; rfl)) (fun q4 => ?_))))⟩) (fun h1 => ?_)
  · have hg := go (by unfold selF; rw [decide_eq_true q1, decide_eq_true q2, decide_eq_true q3, decide_eq_true q4]; rfl)
    have app : canL o p per g (k + 1) = L ++ [g k] → ∀ ch : Nat → List AV, ch 0 = mgC (g k) → ∃ i' : Nat, (TEq [(1, .str o), (2, .str p), (3, .int .i64 per), (9, .own 0 (L.length + 1)), (13, .view 15 n (mgRow g)), (14, .int .i64 (n : Int)), (15, .int .i64 ((k : Int) + 1))] [(1, .str o), (2, .str p), (3, .int .i64 per), (9, .own 0 (canL o p per g i').length), (13, .view 15 n (mgRow g)), (14, .int .i64 (n : Int)), (15, .int .i64 (i' : Int))] ∧
        RowsEq [(0, .row 40 15 (L.length + 1) (apF L.length (mgRow (atM L)) ch) false)] [(0, .row 40 15 (canL o p per g i').length (mgRow (atM (canL o p per g i'))) false)]) ∧ (i' ≤ n ∧ n - i' < n - k) := fun e ch hch => by
      refine ⟨k + 1, ?_, by omega, by omega⟩
      rw [e, List.length_append]
      refine ⟨rfl, ⟨rfl, rfl, rfl, rfl, rfl, fun j hj => ?_⟩, trivial⟩
      have := snocM (Nat.le_refl L.length) ch hch j hj
      rw [List.take_length] at this
      exact this
    refine condP_dec (fun r1 => ?_) (fun r1 => ?_)
    · have e1 : ((L.length : Int) - 1).toNat = L.length - 1 := by omega
      rw [e1]
      refine ⟨by simp only [inR]; omega, ⟨by omega, by omega⟩, ⟨by omega, rfl⟩, condP_dec (fun r2 => ?_) (fun r2 => ?_)⟩
      · have e : canL o p per g (k + 1) = L.take (L.length - 1) ++ [g k] := by rw [hg, stpC, decide_eq_true (show 0 < L.length by omega), decide_eq_true r2]; rfl
        have hl : (L.take (L.length - 1)).length = L.length - 1 := by simp
        refine ⟨by simp only [inR]; omega, ⟨by omega, by omega⟩, ⟨by omega, rfl, by omega⟩, ⟨⟨Nat.le_refl _, rfl⟩, by omega, rfl, rfl, rfl, by omega, ?_⟩, by simp only [inR]; omega, k + 1, ?_, by omega, by omega⟩
        · show (L.length - 1 + 1) * 176 ≤ _
          omega
        · rw [e, List.length_append, hl]
          exact ⟨rfl, ⟨rfl, rfl, rfl, rfl, rfl, fun j hj => snocM (by omega) _ rfl j hj⟩, trivial⟩
      · have e : canL o p per g (k + 1) = L ++ [g k] := by rw [hg, stpC, decide_eq_false r2, Bool.and_false]; rfl
        refine ⟨⟨by omega, rfl, by omega⟩, ⟨⟨Nat.le_refl _, rfl⟩, Nat.le_refl _, rfl, rfl, rfl, by omega, ?_⟩, by simp only [inR]; omega, app e _ rfl⟩
        show (L.length + 1) * 176 ≤ _
        omega
    · have e : canL o p per g (k + 1) = L ++ [g k] := by rw [hg, stpC, decide_eq_false (show ¬ 0 < L.length by omega)]; rfl
      refine ⟨⟨by omega, rfl, by omega⟩, ⟨⟨Nat.le_refl _, rfl⟩, Nat.le_refl _, rfl, rfl, rfl, by omega, ?_⟩, by simp only [inR]; omega, app e _ rfl⟩
      show (L.length + 1) * 176 ≤ _
      omega
  · have : k = n := by omega
    subst this
    rw [hC] at hQ
    exact ⟨fun _ _ => rfl, _, rowsEqR _, hQ⟩
theorem cand_ok (hP : C.P = Tryz.prog) : SpecOK C 67 S_cand := by
  rintro args objs U Os vc h hvc
  unfold S_cand at h
  split at h <;> simp only [Option.some.injEq, Prod.mk.injEq, reduceCtorEq] at h
  rename_i n f o p per
  obtain ⟨rfl, rfl, rfl⟩ := h
  obtain ⟨hn, hf⟩ := hvc
  generalize mgOf f = g at *
  subst hf
  refine ACalls.frzO 0 ?_
  refine RSpecOK.wpL (prg hP) [] [(3, L_cnd o p per g n)] 0 .nil (hP ▸ Tryz.func67) rfl rfl rfl [(loopC Tryz.f67 3, L_cnd o p per g n)] (by kernel_rfl) ⟨cnd_loop hP o p per g n, trivial⟩ ?_
  rw [nf_cand]
  generalize canL o p per g n = L at *
  refine ⟨⟨rfl, ⟨rfl, rfl, rfl, rfl, rfl, fun i hi => absurd hi (Nat.not_lt_zero i)⟩, trivial⟩, hn, fun _ _ => rfl, _, rowsEqR _, fun _ _ => rfl, ?_⟩
  have hb : Nat.ble L.length L.length = true := Nat.ble_eq_true_of_le (Nat.le_refl _)
  constructor
  · simp [frzC, frzA, frz, hb]
  · rfl
end Go.Eng
namespace Go.Eng
open Go.Proofs Go.RowKit
variable {C : Ctx} [C.Loose]
set_option maxRecDepth 20000
theorem nf_rs1 (m : MG) (x : VT) (R : AV → List (Nat × AObj) → Prop) : wpFn te [] [] 0 Tryz.f69 [.agg [.str m.dev, .int .i64 m.seq, .int .i64 m.kind, .str m.v.o, .str m.v.p, .int .i64 m.v.per, .int .i64 m.v.day, .int .i64 m.v.st, .int .i64 m.v.pr, .str m.v.rep, .str m.d.o, .str m.d.p, .int .i64 m.d.per, .str m.d.dev, .int .i64 m.d.num], .ptr 0 0] [.cells [.str x.o, .str x.p, .int .i64 x.per, .int .i64 x.day, .int .i64 x.st, .int .i64 x.pr, .str x.rep] 36] R = (letI z0 := ([(0, .cells [.str (VT.o x), .str (VT.p x), .int .i64 (VT.per x), .int .i64 (VT.day x), .int .i64 (VT.st x), .int .i64 (VT.pr x), .str (VT.rep x)] 36)] : List (Nat × AObj)); condP (!decide (VT.st (MG.v m) = VT.st x)) (R (.bool true) z0) (condP (!decide (VT.pr (MG.v m) = VT.pr x)) (R (.bool true) z0) (R (.bool !decide (VT.rep (MG.v m) = VT.rep x)) z0))) := by kernel_rfl
theorem nf_rs2 (m : MG) (x : DT) (R : AV → List (Nat × AObj) → Prop) : wpFn te [(63, .det S_mark)] [] 0 Tryz.f71 [.agg [.str m.dev, .int .i64 m.seq, .int .i64 m.kind, .str m.v.o, .str m.v.p, .int .i64 m.v.per, .int .i64 m.v.day, .int .i64 m.v.st, .int .i64 m.v.pr, .str m.v.rep, .str m.d.o, .str m.d.p, .int .i64 m.d.per, .str m.d.dev, .int .i64 m.d.num], .ptr 0 0] [.cells [.str x.o, .str x.p, .int .i64 x.per, .str x.dev, .int .i64 x.num] 38] R = (True ∧ R (.bool (decide (MG.dev m = DT.dev x) && decide (MG.seq m = DT.num x))) [(0, .cells [.str (DT.o x), .str (DT.p x), .int .i64 (DT.per x), .str (DT.dev x), .int .i64 (DT.num x)] 38)]) := by kernel_rfl
theorem nf_ixs1 (x : VT) (g : Nat → MG) (n : Nat) (R : AV → List (Nat × AObj) → Prop) : wpFn te [(69, .det S_rs1)] [(2, L_ixs1 x g n)] 0 Tryz.f70 [.view 15 n (mgRow g), .func 69 [.ptr 0 0]] [.cells [.str x.o, .str x.p, .int .i64 x.per, .int .i64 x.day, .int .i64 x.st, .int .i64 x.pr, .str x.rep] 36] R = (letI z0 := ([(0, .cells [.str (VT.o x), .str (VT.p x), .int .i64 (VT.per x), .int .i64 (VT.day x), .int .i64 (VT.st x), .int .i64 (VT.pr x), .str (VT.rep x)] 36)] : List (Nat × AObj)); some (St.mk [(0, .view 15 n (mgRow g)), (1, .func 69 [.ptr 0 0]), (7, .int .i64 (↑n : Int)), (8, .int .i64 0)] z0 1 []) = some (St.mk [(0, .view 15 n (mgRow g)), (1, .func 69 [.ptr 0 0]), (7, .int .i64 (↑n : Int)), (8, .int .i64 (↑0 : Int))] z0 1 []) ∧ n ≤ 1000000 ∧ condP (decide (fstB (fun (i : Nat) => difF x (g i)) n < n)) (R (.int .i64 (↑(fstB (fun (i : Nat) => difF x (g i)) n) : Int)) z0) (R (.int .i64 (-1 : Int)) z0)) := by kernel_rfl
theorem nf_ixs1_round (x : VT) (g : Nat → MG) (n k : Nat) (P : Nat → Prop) (R : Exit → St → Prop) : roundP ⟨te, [(69, .det S_rs1)], [], 1, 19, 0⟩ (loopB Tryz.f70 2) [0, 1, 7, 8] [] [4] (S_ixs1 x g n) P R (S_ixs1 x g n k) = (letI z1 := (g (Int.toNat (↑k : Int))); letI z0 := ([(0, .cells [.str (VT.o x), .str (VT.p x), .int .i64 (VT.per x), .int .i64 (VT.day x), .int .i64 (VT.st x), .int .i64 (VT.pr x), .str (VT.rep x)] 36)] : List (Nat × AObj)); condP (decide ((↑k : Int) < (↑n : Int))) (((0 : Int) ≤ (↑k : Int) ∧ (↑k : Int) < (↑n : Int) ∧ 15 = 15) ∧ 36 = 36 ∧ condP (difF (VT.mk (VT.o x) (VT.p x) (VT.per x) (VT.day x) (VT.st x) (VT.pr x) (VT.rep x)) (MG.mk (MG.dev z1) (MG.seq z1) (MG.kind z1) (VT.mk (VT.o (MG.v z1)) (VT.p (MG.v z1)) (VT.per (MG.v z1)) (VT.day (MG.v z1)) (VT.st (MG.v z1)) (VT.pr (MG.v z1)) (VT.rep (MG.v z1))) (DT.mk (DT.o (MG.d z1)) (DT.p (MG.d z1)) (DT.per (MG.d z1)) (DT.dev (MG.d z1)) (DT.num (MG.d z1))))) (R .ret (St.mk [(4, .int .i64 (↑k : Int))] z0 1 [])) (inR .i64 ((↑k : Int) + (1 : Int)) ∧ ∃ (i' : Nat), some (St.mk [(0, .view 15 n (mgRow g)), (1, .func 69 [.ptr 0 0]), (7, .int .i64 (↑n : Int)), (8, .int .i64 ((↑k : Int) + (1 : Int)))] z0 1 []) = some (St.mk [(0, .view 15 n (mgRow g)), (1, .func 69 [.ptr 0 0]), (7, .int .i64 (↑n : Int)), (8, .int .i64 (↑i' : Int))] z0 1 []) ∧ P i')) (R (.exit 0) (St.mk [] z0 1 []))) := by kernel_rfl
theorem nf_ixs2 (x : DT) (g : Nat → MG) (n : Nat) (R : AV → List (Nat × AObj) → Prop) : wpFn te [(71, .det S_rs2)] [(2, L_ixs2 x g n)] 0 Tryz.f70 [.view 15 n (mgRow g), .func 71 [.ptr 0 0]] [.cells [.str x.o, .str x.p, .int .i64 x.per, .str x.dev, .int .i64 x.num] 38] R = (letI z0 := ([(0, .cells [.str (DT.o x), .str (DT.p x), .int .i64 (DT.per x), .str (DT.dev x), .int .i64 (DT.num x)] 38)] : List (Nat × AObj)); some (St.mk [(0, .view 15 n (mgRow g)), (1, .func 71 [.ptr 0 0]), (7, .int .i64 (↑n : Int)), (8, .int .i64 0)] z0 1 []) = some (St.mk [(0, .view 15 n (mgRow g)), (1, .func 71 [.ptr 0 0]), (7, .int .i64 (↑n : Int)), (8, .int .i64 (↑0 : Int))] z0 1 []) ∧ n ≤ 1000000 ∧ condP (decide (fstB (fun (i : Nat) => namF x (g i)) n < n)) (R (.int .i64 (↑(fstB (fun (i : Nat) => namF x (g i)) n) : Int)) z0) (R (.int .i64 (-1 : Int)) z0)) := by kernel_rfl
theorem nf_ixs2_round (x : DT) (g : Nat → MG) (n k : Nat) (P : Nat → Prop) (R : Exit → St → Prop) : roundP ⟨te, [(71, .det S_rs2)], [], 1, 19, 0⟩ (loopB Tryz.f70 2) [0, 1, 7, 8] [] [4] (S_ixs2 x g n) P R (S_ixs2 x g n k) = (letI z1 := ([(0, .cells [.str (DT.o x), .str (DT.p x), .int .i64 (DT.per x), .str (DT.dev x), .int .i64 (DT.num x)] 38)] : List (Nat × AObj)); letI z0 := (g (Int.toNat (↑k : Int))); condP (decide ((↑k : Int) < (↑n : Int))) (((0 : Int) ≤ (↑k : Int) ∧ (↑k : Int) < (↑n : Int) ∧ 15 = 15) ∧ 38 = 38 ∧ condP (namF (DT.mk (DT.o x) (DT.p x) (DT.per x) (DT.dev x) (DT.num x)) (MG.mk (MG.dev z0) (MG.seq z0) (MG.kind z0) (VT.mk (VT.o (MG.v z0)) (VT.p (MG.v z0)) (VT.per (MG.v z0)) (VT.day (MG.v z0)) (VT.st (MG.v z0)) (VT.pr (MG.v z0)) (VT.rep (MG.v z0))) (DT.mk (DT.o (MG.d z0)) (DT.p (MG.d z0)) (DT.per (MG.d z0)) (DT.dev (MG.d z0)) (DT.num (MG.d z0))))) (R .ret (St.mk [(4, .int .i64 (↑k : Int))] z1 1 [])) (inR .i64 ((↑k : Int) + (1 : Int)) ∧ ∃ (i' : Nat), some (St.mk [(0, .view 15 n (mgRow g)), (1, .func 71 [.ptr 0 0]), (7, .int .i64 (↑n : Int)), (8, .int .i64 ((↑k : Int) + (1 : Int)))] z1 1 []) = some (St.mk [(0, .view 15 n (mgRow g)), (1, .func 71 [.ptr 0 0]), (7, .int .i64 (↑n : Int)), (8, .int .i64 (↑i' : Int))] z1 1 []) ∧ P i')) (R (.exit 0) (St.mk [] z1 1 []))) := by kernel_rfl
theorem nf_cf1 (x : VT) (g : Nat → MG) (n : Nat) (R : AV → List (Nat × AObj) → Prop) : wpFn te [(70, .det S_ix1)] [] 0 Tryz.f68 [.view 15 n (mgRow g), .func 69 [.ptr 0 0]] [.cells [.str x.o, .str x.p, .int .i64 x.per, .int .i64 x.day, .int .i64 x.st, .int .i64 x.pr, .str x.rep] 36] R = ((36 = 36 ∧ n ≤ 1000000 ∧ mgRow g = mgRow (mgOf (mgRow g))) ∧ R (.bool (decide ((0 : Int) ≤ ixB (fun (i : Nat) => difF (VT.mk (VT.o x) (VT.p x) (VT.per x) (VT.day x) (VT.st x) (VT.pr x) (VT.rep x)) (mgOf (mgRow g) i)) n))) [(0, .cells [.str (VT.o x), .str (VT.p x), .int .i64 (VT.per x), .int .i64 (VT.day x), .int .i64 (VT.st x), .int .i64 (VT.pr x), .str (VT.rep x)] 36)]) := by kernel_rfl
theorem rs1_ok (hP : C.P = Tryz.prog) : SpecOK C 69 S_rs1 := by
  have _ : C.Loose := inferInstance
  rintro args objs U Os vc h hvc
  unfold S_rs1 at h
  split at h <;> simp only [Option.some.injEq, Prod.mk.injEq, reduceCtorEq] at h
  rename_i dev seq kind o p per day st pr rep o' p' per' dev' num xo xp xper xday xst xpr xrep t
  obtain ⟨rfl, rfl, rfl⟩ := h
  have hvc : t = _ := hvc
  subst hvc
  have hn := nf_rs1 ⟨dev, seq, kind, ⟨o, p, per, day, st, pr, rep⟩, ⟨o', p', per', dev', num⟩⟩ ⟨xo, xp, xper, xday, xst, xpr, xrep⟩
  dsimp only at hn
  refine SpecOK.wp0 (prg hP) [] 0 .nil (hP ▸ Tryz.func69) rfl rfl rfl ?_
  rw [hn]
  unfold difF
  exact condP_ndec (fun q => by rw [decide_eq_false q]; exact ⟨rfl, rfl⟩) (fun q1 => condP_ndec (fun q => by rw [decide_eq_true q1, decide_eq_false q]; exact ⟨rfl, rfl⟩) (fun q2 => by rw [decide_eq_true q1, decide_eq_true q2]; exact ⟨rfl, rfl⟩))
theorem ixs1_loop (hP : C.P = Tryz.prog) (x : VT) (g : Nat → MG) (n : Nat) : LoopOK C 1 19 (loopC Tryz.f70 2) (L_ixs1 x g n) := by
  rintro st Q ⟨h0, hn, hQ⟩
  have hR := condP_elim hQ
  refine LoopOK.mk (prg hP) [(69, .det S_rs1)] 0 (.cons (rs1_ok hP) .nil) [0, 1, 7, 8] [] [4] (S_ixs1 x g n) (fun k => k ≤ n ∧ fstB (fun i => difF x (g i)) k = k) (fun k => n - k) 0 ⟨Nat.zero_le _, rfl⟩ h0 (fun k hk => ?_)
  obtain ⟨hkn, hok⟩ := hk
  rw [nf_ixs1_round, Int.toNat_natCast]
  refine condP_dec (fun h1 => ?_) (fun h1 => ?_)
  · refine ⟨⟨by omega, by omega, rfl⟩, rfl, condP_intro (fun h2 => ?_) (fun h2 => ⟨by simp only [inR]; omega, k + 1, rfl, ⟨by omega, fstB_not hok h2⟩, by omega⟩)⟩
    have e := fstB_at hok h2 n (by omega)
    have := hR.1 (by rw [e, decide_eq_true]; omega)
    rw [e] at this
    exact this
  · have : k = n := by omega
    subst this
    exact hR.2 (by rw [hok, decide_eq_false]; omega)
theorem ix1_ok (hP : C.P = Tryz.prog) : SpecOK C 70 S_ix1 := by
  rintro args objs U Os vc h hvc
  unfold S_ix1 at h
  split at h <;> simp only [Option.some.injEq, Prod.mk.injEq, reduceCtorEq] at h
  rename_i n f xo xp xper xday xst xpr xrep t
  obtain ⟨rfl, rfl, rfl⟩ := h
  obtain ⟨rfl, hn, hf⟩ := hvc
  generalize mgOf f = g at *
  subst hf
  have hnf := fun R => nf_ixs1 ⟨xo, xp, xper, xday, xst, xpr, xrep⟩ g n R
  dsimp only at hnf
  refine SpecOK.wpL (prg hP) [(69, .det S_rs1)] [(2, L_ixs1 ⟨xo, xp, xper, xday, xst, xpr, xrep⟩ g n)] 0 (.cons (rs1_ok hP) .nil) (hP ▸ Tryz.func70) rfl rfl rfl [(loopC Tryz.f70 2, L_ixs1 ⟨xo, xp, xper, xday, xst, xpr, xrep⟩ g n)] (by kernel_rfl) ⟨ixs1_loop hP _ g n, trivial⟩ ?_
  rw [hnf]
  unfold ixB
  refine ⟨rfl, hn, condP_dec (fun h => ?_) (fun h => ?_)⟩
  · rw [decide_eq_true h]; exact ⟨rfl, rfl⟩
  · rw [decide_eq_false h]; exact ⟨rfl, rfl⟩
theorem rs2_ok (hP : C.P = Tryz.prog) : SpecOK C 71 S_rs2 := by
  rintro args objs U Os vc h hvc
  unfold S_rs2 at h
  split at h <;> simp only [Option.some.injEq, Prod.mk.injEq, reduceCtorEq] at h
  rename_i dev seq kind o p per day st pr rep o' p' per' dev' num xo xp xper xdev xnum t
  obtain ⟨rfl, rfl, rfl⟩ := h
  have hvc : t = _ := hvc
  subst hvc
  have hn := nf_rs2 ⟨dev, seq, kind, ⟨o, p, per, day, st, pr, rep⟩, ⟨o', p', per', dev', num⟩⟩ ⟨xo, xp, xper, xdev, xnum⟩
  dsimp only at hn
  refine SpecOK.wp0 (prg hP) [(63, .det S_mark)] 0 (.cons (mark_ok hP) .nil) (hP ▸ Tryz.func71) rfl rfl rfl ?_
  rw [hn]
  exact ⟨trivial, rfl, rfl⟩
theorem ixs2_loop (hP : C.P = Tryz.prog) (x : DT) (g : Nat → MG) (n : Nat) : LoopOK C 1 19 (loopC Tryz.f70 2) (L_ixs2 x g n) := by
  rintro st Q ⟨h0, hn, hQ⟩
  have hR := condP_elim hQ
  refine LoopOK.mk (prg hP) [(71, .det S_rs2)] 0 (.cons (rs2_ok hP) .nil) [0, 1, 7, 8] [] [4] (S_ixs2 x g n) (fun k => k ≤ n ∧ fstB (fun i => namF x (g i)) k = k) (fun k => n - k) 0 ⟨Nat.zero_le _, rfl⟩ h0 (fun k hk => ?_)
  obtain ⟨hkn, hok⟩ := hk
  rw [nf_ixs2_round, Int.toNat_natCast]
  refine condP_dec (fun h1 => ?_) (fun h1 => ?_)
  · refine ⟨⟨by omega, by omega, rfl⟩, rfl, condP_intro (fun h2 => ?_) (fun h2 => ⟨by simp only [inR]; omega, k + 1, rfl, ⟨by omega, fstB_not hok h2⟩, by omega⟩)⟩
    have e := fstB_at hok h2 n (by omega)
    have := hR.1 (by rw [e, decide_eq_true]; omega)
    rw [e] at this
    exact this
  · have : k = n := by omega
    subst this
    exact hR.2 (by rw [hok, decide_eq_false]; omega)
theorem ix2_ok (hP : C.P = Tryz.prog) : SpecOK C 70 S_ix2 := by
  rintro args objs U Os vc h hvc
  unfold S_ix2 at h
  split at h <;> simp only [Option.some.injEq, Prod.mk.injEq, reduceCtorEq] at h
  rename_i n f xo xp xper xdev xnum t
  obtain ⟨rfl, rfl, rfl⟩ := h
  obtain ⟨rfl, hn, hf⟩ := hvc
  generalize mgOf f = g at *
  subst hf
  have hnf := fun R => nf_ixs2 ⟨xo, xp, xper, xdev, xnum⟩ g n R
  dsimp only at hnf
  refine SpecOK.wpL (prg hP) [(71, .det S_rs2)] [(2, L_ixs2 ⟨xo, xp, xper, xdev, xnum⟩ g n)] 0 (.cons (rs2_ok hP) .nil) (hP ▸ Tryz.func70) rfl rfl rfl [(loopC Tryz.f70 2, L_ixs2 ⟨xo, xp, xper, xdev, xnum⟩ g n)] (by kernel_rfl) ⟨ixs2_loop hP _ g n, trivial⟩ ?_
  rw [hnf]
  unfold ixB
  refine ⟨rfl, hn, condP_dec (fun h => ?_) (fun h => ?_)⟩
  · rw [decide_eq_true h]; exact ⟨rfl, rfl⟩
  · rw [decide_eq_false h]; exact ⟨rfl, rfl⟩
theorem cf1_ok (hP : C.P = Tryz.prog) : SpecOK C 68 S_cf1 := by
  rintro args objs U Os vc h hvc
  unfold S_cf1 at h
  split at h <;> simp only [Option.some.injEq, Prod.mk.injEq, reduceCtorEq] at h
  rename_i n f xo xp xper xday xst xpr xrep t
  obtain ⟨rfl, rfl, rfl⟩ := h
  obtain ⟨rfl, hn, hf⟩ := hvc
  generalize mgOf f = g at *
  subst hf
  have hnf := fun R => nf_cf1 ⟨xo, xp, xper, xday, xst, xpr, xrep⟩ g n R
  dsimp only at hnf
  refine SpecOK.wp0 (prg hP) [(70, .det S_ix1)] 0 (.cons (ix1_ok hP) .nil) (hP ▸ Tryz.func68) rfl rfl rfl ?_
  rw [hnf]
  exact ⟨⟨rfl, hn, rfl⟩, rfl, rfl⟩
end Go.Eng
