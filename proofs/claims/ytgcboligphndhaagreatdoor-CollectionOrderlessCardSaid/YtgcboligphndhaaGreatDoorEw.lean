/- The reference's Combine: what it answers. -/
import Derived.Test.YtgcboligphndhaaGreatDoorEp
import Derived.Test.YtgcboligphndhaaGreatDoorEv
import Derived.Test.YtgcboligphndhaaGreatDoorEs
import Derived.Test.YtgcboligphndhaaGreatDoorEu
import Derived.Test.YtgcboligphndhaaGreatDoorEt
import Derived.Test.YtgcboligphndhaaGreatDoorEq
namespace Go.Eng
open Go.Proofs Go.RowKit
variable {C : Ctx} [C.Loose]
set_option maxRecDepth 20000
theorem nf_resolve (g : Nat → MG) (n : Nat) (o p : List UInt8) (per : Int) (R : AV → List (Nat × AObj) → Prop) : wpFn te [(66, .det S_right), (67, .det S_cand), (68, .det S_cf1)] [(10, L_rl o p per (canL o p per (atM (rightL g n)) (rightL g n).length) (rightL g n))] 0 Tryz.f24 [.view 15 n (mgRow g), .str o, .str p, .int .i64 per] [] R = (letI z8 := atM (rightL g n); letI z7 := List.length (rightL g n); letI z6 := rightL (mgOf (mgRow g)) n; letI z4 := ([.str [], .str [], .int .i64 0, .int .i64 0, .int .i64 0, .int .i64 0, .str []] : List AV); letI z1 := canL o p per z8 z7; letI z5 := Prod.fst (dcF o p per z1 z8 0); letI z3 := Prod.fst (dcF o p per z1 z8 z7); letI z0 := canL o p per (mgOf (mgRow (atM z6))) (List.length z6); letI z2 := (MG.v (atM z0 (Int.toNat (0 : Int)))); (n ≤ 100000 ∧ mgRow g = mgRow (mgOf (mgRow g)) ∧ ∀ (i : Nat), i < n → MG.Sm (mgOf (mgRow g) i)) ∧ (List.length z6 ≤ 1000000 ∧ mgRow (atM z6) = mgRow (mgOf (mgRow (atM z6)))) ∧ condP (decide ((↑(List.length z0) : Int) = (0 : Int))) ((True ∧ True) ∧ R (.tuple [.agg z4, .int .i64 0]) []) (((0 : Int) ≤ (0 : Int) ∧ (0 : Int) < (↑(List.length z0) : Int) ∧ 15 = 15) ∧ (36 = 36 ∧ List.length z0 ≤ 1000000 ∧ mgRow (atM z0) = mgRow (mgOf (mgRow (atM z0)))) ∧ condP (!decide ((0 : Int) ≤ ixB (fun (i : Nat) => difF (VT.mk (VT.o z2) (VT.p z2) (VT.per z2) (VT.day z2) (VT.st z2) (VT.pr z2) (VT.rep z2)) (mgOf (mgRow (atM z0)) i)) (List.length z0))) ((True ∧ True) ∧ R (.tuple [.agg [.str (VT.o z2), .str (VT.p z2), .int .i64 (VT.per z2), .int .i64 (VT.day z2), .int .i64 (VT.st z2), .int .i64 (VT.pr z2), .str (VT.rep z2)], .int .i64 1]) []) (some (St.mk [(1, .str o), (2, .str p), (3, .int .i64 per), (8, .ptr 0 0), (11, .view 15 (List.length z0) (mgRow (atM z0))), (13, .ptr 1 0), (14, .int .i64 (-1 : Int)), (40, .view 15 (List.length z6) (mgRow (atM z6))), (41, .int .i64 (↑(List.length z6) : Int)), (42, .int .i64 0)] [(0, .cells z4 36), (1, .cells z4 36)] 2 []) = some (St.mk [(1, .str o), (2, .str p), (3, .int .i64 per), (8, .ptr 0 0), (11, .view 15 (List.length z1) (mgRow (atM z1))), (13, .ptr 1 0), (14, .int .i64 (Prod.snd (dcF o p per z1 z8 0))), (40, .view 15 z7 (mgRow z8)), (41, .int .i64 (↑z7 : Int)), (42, .int .i64 (↑0 : Int))] [(0, .cells z4 36), (1, .cells [.str (VT.o z5), .str (VT.p z5), .int .i64 (VT.per z5), .int .i64 (VT.day z5), .int .i64 (VT.st z5), .int .i64 (VT.pr z5), .str (VT.rep z5)] 36)] 2 []) ∧ List.length (rightL g n) ≤ 1000000 ∧ List.length z1 ≤ 1000000 ∧ condP (decide (Prod.snd (dcF o p per z1 z8 z7) < (0 : Int))) ((True ∧ True) ∧ R (.tuple [.agg z4, .int .i64 2]) []) ((True ∧ True) ∧ R (.tuple [.agg [.str (VT.o z3), .str (VT.p z3), .int .i64 (VT.per z3), .int .i64 (VT.day z3), .int .i64 (VT.st z3), .int .i64 (VT.pr z3), .str (VT.rep z3)], .int .i64 1]) [])))) := by kernel_rfl
theorem nf_rl_round (o p : List UInt8) (per : Int) (C R : List MG) (k : Nat) (P : Nat → Prop) (Q : Exit → St → Prop) : roundP ⟨te, [(70, .det S_ix2)], [], 0, 92, 0⟩ (loopB Tryz.f24 10) [1, 2, 3, 8, 11, 13, 14, 40, 41, 42] [8, 13, 14] [] (S_rl o p per C R) P Q (S_rl o p per C R k) = (letI z7 := (↑(List.length R) : Int); letI z6 := dcF o p per C (atM R) k; letI z5 := ([.str [], .str [], .int .i64 0, .int .i64 0, .int .i64 0, .int .i64 0, .str []] : List AV); letI z4 := (atM R (Int.toNat (↑k : Int))); letI z3 := ([(0, .cells z5 36), (1, .cells [.str (VT.o (Prod.fst z6)), .str (VT.p (Prod.fst z6)), .int .i64 (VT.per (Prod.fst z6)), .int .i64 (VT.day (Prod.fst z6)), .int .i64 (VT.st (Prod.fst z6)), .int .i64 (VT.pr (Prod.fst z6)), .str (VT.rep (Prod.fst z6))] 36)] : List (Nat × AObj)); letI z1 := (DT.mk (DT.o (MG.d z4)) (DT.p (MG.d z4)) (DT.per (MG.d z4)) (DT.dev (MG.d z4)) (DT.num (MG.d z4))); letI z2 := (MG.v (atM C (Int.toNat (ixB (fun (i : Nat) => namF z1 (mgOf (mgRow (atM C)) i)) (List.length C))))); letI z0 := (inR .i64 ((↑k : Int) + (1 : Int)) ∧ ∃ (i' : Nat), some (St.mk [(1, .str o), (2, .str p), (3, .int .i64 per), (8, .ptr 0 0), (11, .view 15 (List.length C) (mgRow (atM C))), (13, .ptr 1 0), (14, .int .i64 (Prod.snd z6)), (40, .view 15 (List.length R) (mgRow (atM R))), (41, .int .i64 z7), (42, .int .i64 ((↑k : Int) + (1 : Int)))] z3 2 []) = some (St.mk [(1, .str o), (2, .str p), (3, .int .i64 per), (8, .ptr 0 0), (11, .view 15 (List.length C) (mgRow (atM C))), (13, .ptr 1 0), (14, .int .i64 (Prod.snd (dcF o p per C (atM R) i'))), (40, .view 15 (List.length R) (mgRow (atM R))), (41, .int .i64 z7), (42, .int .i64 (↑i' : Int))] [(0, .cells z5 36), (1, .cells [.str (VT.o (Prod.fst (dcF o p per C (atM R) i'))), .str (VT.p (Prod.fst (dcF o p per C (atM R) i'))), .int .i64 (VT.per (Prod.fst (dcF o p per C (atM R) i'))), .int .i64 (VT.day (Prod.fst (dcF o p per C (atM R) i'))), .int .i64 (VT.st (Prod.fst (dcF o p per C (atM R) i'))), .int .i64 (VT.pr (Prod.fst (dcF o p per C (atM R) i'))), .str (VT.rep (Prod.fst (dcF o p per C (atM R) i')))] 36)] 2 []) ∧ P i'); condP (decide ((↑k : Int) < z7)) (((0 : Int) ≤ (↑k : Int) ∧ (↑k : Int) < z7 ∧ 15 = 15) ∧ condP (!decide (MG.kind z4 = (2 : Int))) z0 (condP (!decide (DT.o (MG.d z4) = o)) z0 (condP (!decide (DT.p (MG.d z4) = p)) z0 (condP (!decide (DT.per (MG.d z4) = per)) z0 (condP (decide (MG.seq z4 < Prod.snd z6)) z0 ((38 = 38 ∧ List.length C ≤ 1000000 ∧ mgRow (atM C) = mgRow (mgOf (mgRow (atM C)))) ∧ condP (decide ((0 : Int) ≤ ixB (fun (i : Nat) => namF z1 (mgOf (mgRow (atM C)) i)) (List.length C))) (((0 : Int) ≤ ixB (fun (i : Nat) => namF z1 (mgOf (mgRow (atM C)) i)) (List.length C) ∧ ixB (fun (i : Nat) => namF z1 (mgOf (mgRow (atM C)) i)) (List.length C) < (↑(List.length C) : Int) ∧ 15 = 15) ∧ inR .i64 ((↑k : Int) + (1 : Int)) ∧ ∃ (i' : Nat), some (St.mk [(1, .str o), (2, .str p), (3, .int .i64 per), (8, .ptr 0 0), (11, .view 15 (List.length C) (mgRow (atM C))), (13, .ptr 1 0), (14, .int .i64 (MG.seq z4)), (40, .view 15 (List.length R) (mgRow (atM R))), (41, .int .i64 z7), (42, .int .i64 ((↑k : Int) + (1 : Int)))] [(0, .cells z5 36), (1, .cells [.str (VT.o z2), .str (VT.p z2), .int .i64 (VT.per z2), .int .i64 (VT.day z2), .int .i64 (VT.st z2), .int .i64 (VT.pr z2), .str (VT.rep z2)] 36)] 2 []) = some (St.mk [(1, .str o), (2, .str p), (3, .int .i64 per), (8, .ptr 0 0), (11, .view 15 (List.length C) (mgRow (atM C))), (13, .ptr 1 0), (14, .int .i64 (Prod.snd (dcF o p per C (atM R) i'))), (40, .view 15 (List.length R) (mgRow (atM R))), (41, .int .i64 z7), (42, .int .i64 (↑i' : Int))] [(0, .cells z5 36), (1, .cells [.str (VT.o (Prod.fst (dcF o p per C (atM R) i'))), .str (VT.p (Prod.fst (dcF o p per C (atM R) i'))), .int .i64 (VT.per (Prod.fst (dcF o p per C (atM R) i'))), .int .i64 (VT.day (Prod.fst (dcF o p per C (atM R) i'))), .int .i64 (VT.st (Prod.fst (dcF o p per C (atM R) i'))), .int .i64 (VT.pr (Prod.fst (dcF o p per C (atM R) i'))), .str (VT.rep (Prod.fst (dcF o p per C (atM R) i')))] 36)] 2 []) ∧ P i') z0)))))) (Q (.exit 0) (St.mk [(8, .ptr 0 0), (13, .ptr 1 0), (14, .int .i64 (Prod.snd z6))] z3 2 []))) := by kernel_rfl
theorem ixB_pos {q : Nat → Bool} {n : Nat} : (0 ≤ ixB q n ↔ fstB q n < n) ∧ (fstB q n < n → ixB q n = (fstB q n : Int)) := by
  unfold ixB
  by_cases h : fstB q n < n
  · rw [decide_eq_true h]
    refine ⟨⟨fun _ => h, fun _ => ?_⟩, fun _ => rfl⟩
    show (0 : Int) ≤ (fstB q n : Int)
    omega
  · rw [decide_eq_false h]
    refine ⟨⟨fun k => ?_, fun k => absurd k h⟩, fun k => absurd k h⟩
    have k : (0 : Int) ≤ -1 := k
    omega
theorem rl_loop (hP : C.P = Tryz.prog) (o p : List UInt8) (per : Int) (L R : List MG) : LoopOK C 0 92 (loopC Tryz.f24 10) (L_rl o p per L R) := by
  rintro st Q ⟨h0, hR, hC, hQ⟩
  refine LoopOK.mk (prg hP) [(70, .det S_ix2)] 0 (.cons (ix2_ok hP) .nil) [1, 2, 3, 8, 11, 13, 14, 40, 41, 42] [8, 13, 14] [] (S_rl o p per L R) (fun k => k ≤ R.length) (fun k => R.length - k) 0 (Nat.zero_le _) h0 (fun k hk => ?_)
  rw [nf_rl_round, Int.toNat_natCast]
  have mk : ∀ r : VT × Int, dcF o p per L (atM R) (k + 1) = r → some (St.mk [(1, .str o), (2, .str p), (3, .int .i64 per), (8, .ptr 0 0), (11, .view 15 L.length (mgRow (atM L))), (13, .ptr 1 0), (14, .int .i64 r.2), (40, .view 15 R.length (mgRow (atM R))), (41, .int .i64 (R.length : Int)), (42, .int .i64 ((k : Int) + 1))] [(0, .cells [.str [], .str [], .int .i64 0, .int .i64 0, .int .i64 0, .int .i64 0, .str []] 36), (1, .cells [.str r.1.o, .str r.1.p, .int .i64 r.1.per, .int .i64 r.1.day, .int .i64 r.1.st, .int .i64 r.1.pr, .str r.1.rep] 36)] 2 []) = some (S_rl o p per L R (k + 1)) := fun r e => by
    unfold S_rl; rw [e]; rfl
  have no : k < R.length → (decOK o p per (dcF o p per L (atM R) k).2 (atM R k) && decide (fstB (fun i => namF (atM R k).d (atM L i)) L.length < L.length)) = false → inR .i64 ((k : Int) + 1) ∧ ∃ i' : Nat, some (St.mk [(1, .str o), (2, .str p), (3, .int .i64 per), (8, .ptr 0 0), (11, .view 15 L.length (mgRow (atM L))), (13, .ptr 1 0), (14, .int .i64 (dcF o p per L (atM R) k).2), (40, .view 15 R.length (mgRow (atM R))), (41, .int .i64 (R.length : Int)), (42, .int .i64 ((k : Int) + 1))] [(0, .cells [.str [], .str [], .int .i64 0, .int .i64 0, .int .i64 0, .int .i64 0, .str []] 36), (1, .cells [.str (dcF o p per L (atM R) k).1.o, .str (dcF o p per L (atM R) k).1.p, .int .i64 (dcF o p per L (atM R) k).1.per, .int .i64 (dcF o p per L (atM R) k).1.day, .int .i64 (dcF o p per L (atM R) k).1.st, .int .i64 (dcF o p per L (atM R) k).1.pr, .str (dcF o p per L (atM R) k).1.rep] 36)] 2 []) = some (S_rl o p per L R i') ∧ (i' ≤ R.length ∧ R.length - i' < R.length - k) := fun hk' h =>
    ⟨by simp only [inR]; omega, k + 1, mk _ (by rw [dcF, h]; rfl), by omega, by omega⟩
  refine condP_dec (fun h1 => ⟨⟨by omega, by omega, rfl⟩, condP_ndec (fun q => no (by omega) (by unfold decOK; rw [decide_eq_false q]; rfl)) (fun q1 => condP_ndec (fun q => no (by omega) (by unfold decOK; rw [decide_eq_true q1, decide_eq_false q]; rfl)) (fun q2 => condP_ndec (fun q => no (by omega) (by unfold decOK; rw [decide_eq_true q1, decide_eq_true q2, decide_eq_false q]; rfl)) (fun q3 => condP_ndec (fun q => no (by omega) (by unfold decOK; rw [decide_eq_true q1, decide_eq_true q2, decide_eq_true q3, decide_eq_false q]; rfl))
    (fun q4 => condP_dec (fun q => no (by omega) (by unfold decOK; rw [decide_eq_true q1, decide_eq_true q2, decide_eq_true q3, decide_eq_true q4, decide_eq_true q]; rfl)) (fun q5 => ⟨⟨rfl, hC, rfl⟩, condP_dec (fun q => ?_) (fun q => ?_)⟩)))))⟩) (fun h1 => ?_)
  · have q : 0 ≤ ixB (fun i => namF (atM R k).d (atM L i)) L.length := q
    obtain ⟨x1, x2⟩ := ixB_pos (q := fun i => namF (atM R k).d (atM L i)) (n := L.length)
    have hlt := x1.1 q
    have hx := x2 hlt
    have hd : dcF o p per L (atM R) (k + 1) = ((atM L (ixB (fun i => namF (atM R k).d (atM L i)) L.length).toNat).v, (atM R k).seq) := by
      rw [dcF, decide_eq_true hlt, hx, Int.toNat_natCast]
      unfold decOK
      rw [decide_eq_true q1, decide_eq_true q2, decide_eq_true q3, decide_eq_true q4, decide_eq_false q5]; rfl
    refine ⟨⟨q, ?_, rfl⟩, by simp only [inR]; omega, k + 1, mk _ hd, by omega, by omega⟩
    show ixB (fun i => namF (atM R k).d (atM L i)) L.length < _
    omega
  · have q : ¬ 0 ≤ ixB (fun i => namF (atM R k).d (atM L i)) L.length := q
    obtain ⟨x1, _⟩ := ixB_pos (q := fun i => namF (atM R k).d (atM L i)) (n := L.length)
    exact no (by omega) (by rw [decide_eq_false (fun h => q (x1.2 h)), Bool.and_false])
  · have : k = R.length := by omega
    subst this
    exact hQ
theorem resolve_ok (hP : C.P = Tryz.prog) (hL : ∀ w, C.laid w → LaidW w) : SpecOK C 24 S_resolve := by
  rintro args objs U Os vc h hvc
  unfold S_resolve at h
  split at h <;> simp only [Option.some.injEq, Prod.mk.injEq, reduceCtorEq] at h
  rename_i n f o p per
  obtain ⟨rfl, rfl, rfl⟩ := h
  obtain ⟨hn, hf, hs⟩ := hvc
  generalize mgOf f = g at *
  subst hf
  refine SpecOK.wpL (prg hP) [(66, .det S_right), (67, .det S_cand), (68, .det S_cf1)] [(10, L_rl o p per (canL o p per (atM (rightL g n)) (rightL g n).length) (rightL g n))] 0 (.cons (right_ok hP hL) (.cons (cand_ok hP) (.cons (cf1_ok hP) .nil))) (hP ▸ Tryz.func24) rfl rfl rfl [(loopC Tryz.f24 10, L_rl o p per (canL o p per (atM (rightL g n)) (rightL g n).length) (rightL g n))] (by kernel_rfl) ⟨rl_loop hP o p per _ _, trivial⟩ ?_
  rw [nf_resolve]
  have hg : mgOf (mgRow g) = g := rfl
  have hgR : mgOf (mgRow (atM (rightL g n))) = atM (rightL g n) := rfl
  rw [hg, hgR]
  have hr : (rightL g n).length ≤ n := by
    have := List.length_filter_le (fun x => !decide (1 < numC (atM (mrgL g n noM 0)) (mk2 x) (mrgL g n noM 0).length)) (mrgL g n noM 0)
    have := mrgL_len g n noM 0
    unfold rightL; omega
  unfold resF
  have hc := canL_len o p per (atM (rightL g n)) (rightL g n).length
  generalize canL o p per (atM (rightL g n)) (rightL g n).length = L at *
  generalize rightL g n = R at *
  refine ⟨⟨hn, rfl, hs⟩, ⟨by omega, rfl⟩, condP_dec (fun q => ?_) (fun q => ⟨⟨by omega, by omega, rfl⟩, ⟨rfl, by omega, rfl⟩, condP_ndec (fun q2 => ?_) (fun q2 => ⟨rfl, by omega, by omega, condP_dec (fun q3 => ?_) (fun q3 => ?_)⟩)⟩)⟩
  · have e : resR o p per R L = (zeroVT, 0) := by unfold resR; rw [decide_eq_true (show L.length = 0 by omega)]; rfl
    rw [e]; exact ⟨⟨trivial, trivial⟩, rfl, rfl⟩
  · have q2 : ¬ 0 ≤ ixB (fun i => difF (atM L 0).v (atM L i)) L.length := q2
    have e : resR o p per R L = ((atM L 0).v, 1) := by unfold resR; rw [decide_eq_false (show ¬ L.length = 0 by omega), decide_eq_false q2]; rfl
    rw [e]; exact ⟨⟨trivial, trivial⟩, rfl, rfl⟩
  · have q2 : 0 ≤ ixB (fun i => difF (atM L 0).v (atM L i)) L.length := q2
    have e : resR o p per R L = (zeroVT, 2) := by unfold resR; rw [decide_eq_false (show ¬ L.length = 0 by omega), decide_eq_true q2, decide_eq_true q3]; rfl
    rw [e]; exact ⟨⟨trivial, trivial⟩, rfl, rfl⟩
  · have q2 : 0 ≤ ixB (fun i => difF (atM L 0).v (atM L i)) L.length := q2
    have e : resR o p per R L = ((dcF o p per L (atM R) R.length).1, 1) := by unfold resR; rw [decide_eq_false (show ¬ L.length = 0 by omega), decide_eq_true q2, decide_eq_false q3]; rfl
    rw [e]; exact ⟨⟨trivial, trivial⟩, rfl, rfl⟩
end Go.Eng
namespace Go.Eng
open Go.Proofs Go.RowKit
variable {C : Ctx} [C.Loose]
set_option maxRecDepth 20000
theorem nf_msgs (n : Nat) (v : Nat → Int) (a most : Int) (R : AV → List (Nat × AObj) → Prop) : wpFn te [(36, .rel R_mmsg), (42, .det S_next)] [(3, L_msgs n v (a + 1) (nextV n v a (most + 1)))] 0 Tryz.f59 [.ptr 0 0, .int .i64 most] [.cells [.view 1 n (intRow v), .int .i64 a] 27] R = (letI z1 := (most + (1 : Int)); letI z0 := (MgS.mk 0 (fun (_x : Nat) => default) (a + (1 : Int))); inR .i64 z1 ∧ (27 = 27 ∧ 1 = 1 ∧ intRow v = intRow (vInt (intRow v)) ∧ ((1 : Int) ≤ most + (1 : Int) ∧ most + (1 : Int) ≤ (1000000 : Int)) ∧ (0 : Int) ≤ a ∧ a ≤ (4611686018427387904 : Int)) ∧ (TEq [(0, .ptr 0 0), (5, .own 1 0), (9, .int .i64 (nextV n (vInt (intRow v)) a z1)), (10, .int .i64 0)] [(0, .ptr 0 0), (5, .own 1 0), (9, .int .i64 (nextV n v a z1)), (10, .int .i64 (↑(MgS.c z0) : Int))] ∧ RowsEq [(0, .cells [.view 1 n (intRow v), .int .i64 (a + (1 : Int))] 27), (1, .row 40 15 0 (fun (_x : Nat) => []) false)] [(0, .cells [.view 1 n (intRow v), .int .i64 (MgS.a z0)] 27), (1, .row 40 15 0 (mgRow (MgS.g z0)) false)]) ∧ ((0 : Int) ≤ nextV n v a z1 ∧ nextV n v a z1 ≤ (100 : Int)) ∧ ((0 : Int) ≤ a + (1 : Int) ∧ a + (1 : Int) ≤ (4611686018427375000 : Int)) ∧ ∀ (i : MgS), MgS.c i = Int.toNat (nextV n v a z1) → a + (1 : Int) ≤ MgS.a i ∧ MgS.a i ≤ a + (1 : Int) + (10 : Int) * (↑(MgS.c i) : Int) → (∀ (j : Nat), j < MgS.c i → MG.Made (MgS.g i j)) → (∀ (i_1 : Nat), i_1 < MgS.c i → true = true) ∧ ∃ (O' : List (Nat × AObj)), RowsEq [(0, .cells [.view 1 n (intRow v), .int .i64 (MgS.a i)] 27), (1, .row 40 15 (MgS.c i) (mgRow (MgS.g i)) false)] O' ∧ R (.own 1 (MgS.c i)) O') := by kernel_rfl
theorem nf_msgs_round (n : Nat) (v : Nat → Int) (N : Int) (i : MgS) (P : MgS → Prop) (R : Exit → St → Prop) : roundP ⟨te, [(36, .rel R_mmsg)], [], 1, 19, 0⟩ (loopB Tryz.f59 3) [0, 5, 9, 10] [5] [] (S_msgs n v N) P R (S_msgs n v N i) = (condP (decide ((↑(MgS.c i) : Int) < N)) (27 = 27 ∧ 1 = 1 ∧ intRow v = intRow (vInt (intRow v)) ∧ ((0 : Int) ≤ MgS.a i ∧ MgS.a i ≤ (4611686018427385000 : Int)) ∧ ∀ (m : MG) (a' : Int), MG.Made m → MgS.a i ≤ a' ∧ a' ≤ MgS.a i + (10 : Int) → (15 ≤ 16777216 ∧ 15 = 15 ∧ 1 ≤ 9223372036854775807) ∧ ((1 ≤ 1 ∧ 15 = 15) ∧ MgS.c i ≤ MgS.c i ∧ 15 = 15 ∧ 40 = 40 ∧ 15 = 15 ∧ MgS.c i + 1 ≤ 9223372036854775807 ∧ (MgS.c i + 1) * TI.bytes shrtE0 ≤ 140737488355328) ∧ inR .i64 ((↑(MgS.c i) : Int) + (1 : Int)) ∧ ∃ (i' : MgS), (TEq [(0, .ptr 0 0), (5, .own 1 (MgS.c i + 1)), (9, .int .i64 N), (10, .int .i64 ((↑(MgS.c i) : Int) + (1 : Int)))] [(0, .ptr 0 0), (5, .own 1 (MgS.c i')), (9, .int .i64 N), (10, .int .i64 (↑(MgS.c i') : Int))] ∧ RowsEq [(0, .cells [.view 1 n (intRow v), .int .i64 a'] 27), (1, .row 40 15 (MgS.c i + 1) (apF (MgS.c i) (mgRow (MgS.g i)) (chunkA (TI.sz shrtE0) (.str (MG.dev m) :: .int .i64 (MG.seq m) :: .int .i64 (MG.kind m) :: .str (VT.o (MG.v m)) :: .str (VT.p (MG.v m)) :: .int .i64 (VT.per (MG.v m)) :: .int .i64 (VT.day (MG.v m)) :: .int .i64 (VT.st (MG.v m)) :: .int .i64 (VT.pr (MG.v m)) :: .str (VT.rep (MG.v m)) :: .str (DT.o (MG.d m)) :: .str (DT.p (MG.d m)) :: .int .i64 (DT.per (MG.d m)) :: .str (DT.dev (MG.d m)) :: .int .i64 (DT.num (MG.d m)) :: List.append [] shrtE1))) false)] [(0, .cells [.view 1 n (intRow v), .int .i64 (MgS.a i')] 27), (1, .row 40 15 (MgS.c i') (mgRow (MgS.g i')) false)]) ∧ P i') ((∀ (i_1 : Nat), i_1 < MgS.c i → true = true) ∧ ∃ (O' : List (Nat × AObj)), RowsEq [(0, .cells [.view 1 n (intRow v), .int .i64 (MgS.a i)] 27), (1, .row 40 15 (MgS.c i) (mgRow (MgS.g i)) false)] O' ∧ R (.exit 0) (St.mk [(5, .own 1 (MgS.c i))] O' 2 []))) := by kernel_rfl
theorem nf_raw11 (g : Nat → MG) (n : Nat) (R : AV → List (Nat × AObj) → Prop) : wpFn te [] [(3, L_rw11 g (min n 12))] 0 Tryz.f16 [.view 15 n (mgRow g)] [] R = (letI z0 := (Int.toNat (min (↑n : Int) (12 : Int))); ((0 : Int) ≤ min (↑n : Int) (12 : Int) ∧ min (↑n : Int) (12 : Int) ≤ (↑n : Int)) ∧ (TEq [(3, .own 0 0), (10, .view 15 z0 (mgRow g)), (11, .int .i64 (↑z0 : Int)), (12, .int .i64 0)] [(3, .own 0 0), (10, .view 15 (min n 12) (mgRow g)), (11, .int .i64 (↑(min n 12) : Int)), (12, .int .i64 (↑0 : Int))] ∧ RowsEq [(0, .row 40 15 0 (fun (_x : Nat) => []) false)] [(0, .row 40 15 0 (mgRow (cutM g)) false)]) ∧ min n 12 ≤ 12 ∧ (∀ (i : Nat), i < min n 12 → true = true) ∧ ∃ (O' : List (Nat × AObj)), RowsEq [(0, .row 40 15 (min n 12) (mgRow (cutM g)) false)] O' ∧ R (.own 0 (min n 12)) O') := by kernel_rfl
theorem nf_rw11_round (g : Nat → MG) (n k : Nat) (P : Nat → Prop) (R : Exit → St → Prop) : roundP ⟨te, [], [], 0, 96, 0⟩ (loopB Tryz.f16 3) [3, 10, 11, 12] [3] [] (S_rw11 g n) P R (S_rw11 g n k) = (letI z0 := (g (Int.toNat (↑k : Int))); letI z7 := (↑(List.length (MG.dev z0)) : Int); letI z6 := (↑(List.length (DT.p (MG.d z0))) : Int); letI z5 := (↑(List.length (DT.o (MG.d z0))) : Int); letI z4 := (↑(List.length (VT.p (MG.v z0))) : Int); letI z3 := (↑(List.length (VT.o (MG.v z0))) : Int); letI z2 := (↑(List.length (DT.dev (MG.d z0))) : Int); letI z1 := (↑(List.length (VT.rep (MG.v z0))) : Int); condP (decide ((↑k : Int) < (↑n : Int))) (((0 : Int) ≤ (↑k : Int) ∧ (↑k : Int) < (↑n : Int) ∧ 15 = 15) ∧ ((0 : Int) ≤ min z7 (30 : Int) ∧ min z7 (30 : Int) ≤ z7) ∧ ((0 : Int) ≤ min z3 (30 : Int) ∧ min z3 (30 : Int) ≤ z3) ∧ ((0 : Int) ≤ min z4 (30 : Int) ∧ min z4 (30 : Int) ≤ z4) ∧ ((0 : Int) ≤ min z1 (30 : Int) ∧ min z1 (30 : Int) ≤ z1) ∧ ((0 : Int) ≤ min z5 (30 : Int) ∧ min z5 (30 : Int) ≤ z5) ∧ ((0 : Int) ≤ min z6 (30 : Int) ∧ min z6 (30 : Int) ≤ z6) ∧ ((0 : Int) ≤ min z2 (30 : Int) ∧ min z2 (30 : Int) ≤ z2) ∧ (15 ≤ 16777216 ∧ 15 = 15 ∧ 1 ≤ 9223372036854775807) ∧ ((1 ≤ 1 ∧ 15 = 15) ∧ k ≤ k ∧ 15 = 15 ∧ 40 = 40 ∧ 15 = 15 ∧ k + 1 ≤ 9223372036854775807 ∧ (k + 1) * TI.bytes shrtE0 ≤ 140737488355328) ∧ inR .i64 ((↑k : Int) + (1 : Int)) ∧ ∃ (i' : Nat), (TEq [(3, .own 0 (k + 1)), (10, .view 15 n (mgRow g)), (11, .int .i64 (↑n : Int)), (12, .int .i64 ((↑k : Int) + (1 : Int)))] [(3, .own 0 i'), (10, .view 15 n (mgRow g)), (11, .int .i64 (↑n : Int)), (12, .int .i64 (↑i' : Int))] ∧ RowsEq [(0, .row 40 15 (k + 1) (apF k (mgRow (cutM g)) (chunkA (TI.sz shrtE0) (.str (List.take (Int.toNat (min z7 (30 : Int))) (MG.dev z0)) :: .int .i64 (MG.seq z0) :: .int .i64 (MG.kind z0) :: .str (List.take (Int.toNat (min z3 (30 : Int))) (VT.o (MG.v z0))) :: .str (List.take (Int.toNat (min z4 (30 : Int))) (VT.p (MG.v z0))) :: .int .i64 (VT.per (MG.v z0)) :: .int .i64 (VT.day (MG.v z0)) :: .int .i64 (VT.st (MG.v z0)) :: .int .i64 (VT.pr (MG.v z0)) :: .str (List.take (Int.toNat (min z1 (30 : Int))) (VT.rep (MG.v z0))) :: .str (List.take (Int.toNat (min z5 (30 : Int))) (DT.o (MG.d z0))) :: .str (List.take (Int.toNat (min z6 (30 : Int))) (DT.p (MG.d z0))) :: .int .i64 (DT.per (MG.d z0)) :: .str (List.take (Int.toNat (min z2 (30 : Int))) (DT.dev (MG.d z0))) :: .int .i64 (DT.num (MG.d z0)) :: List.append [] shrtE1))) false)] [(0, .row 40 15 i' (mgRow (cutM g)) false)]) ∧ P i') ((∀ (i : Nat), i < k → true = true) ∧ ∃ (O' : List (Nat × AObj)), RowsEq [(0, .row 40 15 k (mgRow (cutM g)) false)] O' ∧ R (.exit 0) (St.mk [(3, .own 0 k)] O' 1 []))) := by kernel_rfl
theorem nf_aw11 (R : AV → List (Nat × AObj) → Prop) : wpFn te [(24, .det S_resolveO)] [] 0 Tryz.f22 [] [] R = ((15 ≤ 16777216 ∧ 15 = 15 ∧ 1 ≤ 9223372036854775807) ∧ (∀ (i : Nat), i < 1 → nrefL (chunkA (TI.sz shrtE0) (.str [(97 : UInt8)] :: .int .i64 1 :: .int .i64 1 :: .str [(111 : UInt8), 49] :: .str [(57 : UInt8), 54, 51, 56, 53, 48, 55, 52] :: .int .i64 5 :: .int .i64 160 :: .int .i64 1 :: .int .i64 100 :: .str [] :: .str [] :: .str [] :: .int .i64 0 :: .str [] :: .int .i64 0 :: List.append [] shrtE1) i) = true) ∧ (1 = 1 ∧ 1 ≤ 100000 ∧ RM (chunkA (TI.sz shrtE0) (.str [(97 : UInt8)] :: .int .i64 1 :: .int .i64 1 :: .str [(111 : UInt8), 49] :: .str [(57 : UInt8), 54, 51, 56, 53, 48, 55, 52] :: .int .i64 5 :: .int .i64 160 :: .int .i64 1 :: .int .i64 100 :: .str [] :: .str [] :: .str [] :: .int .i64 0 :: .str [] :: .int .i64 0 :: List.append [] shrtE1)) 1) ∧ R (.bool true) []) := by kernel_rfl
theorem mput_ap (g : Nat → MG) (k : Nat) (r : MG) (ch : Nat → List AV) (hch : ch 0 = mgC r) (j : Nat) (_hj : j < k + 1) : apF k (mgRow g) ch j = mgRow (MG.put g k r) j := by
  unfold apF mgRow MG.put
  by_cases h : j < k
  · rw [if_pos h, if_pos h]
  · have : j = k := by omega
    rw [if_neg h, if_neg h, this, Nat.sub_self, hch]; rfl
theorem msgs_loop (hP : C.P = Tryz.prog) (n : Nat) (v : Nat → Int) (a N : Int) : LoopOK C 1 19 (loopC Tryz.f59 3) (L_msgs n v a N) := by
  rintro st Q ⟨h0, hN, ha, hQ⟩
  refine AWP.ownNil 5 40 15 ?_
  refine LoopOK.mk (prg hP) [(36, .rel R_mmsg)] 0 (.cons (mmsg_ok hP) .nil) [0, 5, 9, 10] [5] [] (S_msgs n v N) (fun i => (i.c : Int) ≤ N ∧ (a ≤ i.a ∧ i.a ≤ a + 10 * i.c) ∧ ∀ j, j < i.c → (i.g j).Made) (fun i => N.toNat - i.c) ⟨0, fun _ => default, a⟩
    ⟨hN.1, by show a ≤ a ∧ a ≤ a + 10 * ((0 : Nat) : Int); omega, fun j hj => absurd hj (Nat.not_lt_zero j)⟩ h0 (fun i hi => ?_) (fun i => ⟨fun _ _ => rfl, trivial⟩)
  obtain ⟨h1, h2, h3⟩ := hi
  rw [nf_msgs_round]
  refine condP_dec (fun q => ?_) (fun q => ⟨fun _ _ => rfl, _, rowsEqR _, hQ i (by omega) h2 h3⟩)
  refine ⟨rfl, rfl, rfl, by omega, fun m a' hm ha' => ⟨⟨by omega, rfl, by omega⟩, ⟨⟨Nat.le_refl _, rfl⟩, Nat.le_refl _, rfl, rfl, rfl, by omega, ?_⟩, by simp only [inR]; omega, ⟨i.c + 1, MG.put i.g i.c m, a'⟩, ⟨rfl, rfl, ⟨rfl, rfl, rfl, rfl, rfl, fun j hj => ?_⟩, trivial⟩, ⟨?_, ?_, fun j hj => ?_⟩, ?_⟩⟩
  · show (i.c + 1) * 176 ≤ _
    omega
  · exact mput_ap i.g i.c m _ rfl j hj
  · show ((i.c + 1 : Nat) : Int) ≤ N
    omega
  · show a ≤ a' ∧ a' ≤ a + 10 * ((i.c + 1 : Nat) : Int)
    omega
  · show (MG.put i.g i.c m j).Made
    unfold MG.put
    by_cases h : j < i.c
    · rw [if_pos h]; exact h3 j h
    · rw [if_neg h]; exact hm
  · show N.toNat - (i.c + 1) < N.toNat - i.c
    omega
theorem msgs_ok (hP : C.P = Tryz.prog) : RSpecOK C 59 R_msgs := by
  rintro args objs R h
  unfold R_msgs at h
  split at h
  · rename_i most sz n f a t
    obtain ⟨rfl, rfl, hf, ha, hm, hR⟩ := h
    rw [hf] at hR ⊢
    generalize vInt f = v at *
    have hw : vInt (intRow v) = v := rfl
    refine RSpecOK.wpL (prg hP) [(36, .rel R_mmsg), (42, .det S_next)] [(3, L_msgs n v (a + 1) (nextV n v a (most + 1)))] 0 (.cons (mmsg_ok hP) (.cons (next_ok hP) .nil)) (hP ▸ Tryz.func59) rfl rfl rfl [(loopC Tryz.f59 3, L_msgs n v (a + 1) (nextV n v a (most + 1)))] (by kernel_rfl) ⟨msgs_loop hP _ _ _ _, trivial⟩ ?_
    rw [nf_msgs, hw]
    have r := nextV_range (show (1 : Int) ≤ most + 1 by omega) n v a
    exact ⟨by simp only [inR]; omega, ⟨rfl, rfl, rfl, ⟨by omega, by omega⟩, by omega, by omega⟩, ⟨rfl, rfl, ⟨rfl, rfl, rfl, rfl, rfl, fun i hi => absurd hi (Nat.not_lt_zero i)⟩, trivial⟩, ⟨by omega, by omega⟩, ⟨by omega, by omega⟩, fun i h1 h2 h3 => ⟨fun _ _ => rfl, _, rowsEqR _, hR i.c i.g i.a (by omega) ⟨by omega, by omega⟩ h3⟩⟩
  · exact h.elim
theorem rw11_loop (hP : C.P = Tryz.prog) (g : Nat → MG) (n : Nat) : LoopOK C 0 96 (loopC Tryz.f16 3) (L_rw11 g n) := by
  have _ : C.Loose := inferInstance
  rintro st Q ⟨h0, hn, hQ⟩
  refine AWP.ownNil 3 40 15 ?_
  refine LoopOK.mk (prg hP) [] 0 .nil [3, 10, 11, 12] [3] [] (S_rw11 g n) (fun k => k ≤ n) (fun k => n - k) 0 (Nat.zero_le _) h0 (fun k hk => ?_) (fun i => ⟨fun _ _ => rfl, trivial⟩)
  rw [nf_rw11_round, Int.toNat_natCast, take_m, take_m, take_m, take_m, take_m, take_m, take_m]
  refine condP_dec (fun h1 => ⟨⟨by omega, by omega, rfl⟩, ⟨by omega, by omega⟩, ⟨by omega, by omega⟩, ⟨by omega, by omega⟩, ⟨by omega, by omega⟩, ⟨by omega, by omega⟩, ⟨by omega, by omega⟩, ⟨by omega, by omega⟩, ⟨by omega, rfl, by omega⟩, ⟨⟨Nat.le_refl _, rfl⟩, Nat.le_refl _, rfl, rfl, rfl, by omega, ?_⟩, by simp only [inR]; omega, k + 1, ⟨rfl, ⟨rfl, rfl, rfl, rfl, rfl, fun j hj => ?_⟩, trivial⟩, by omega, by omega⟩) (fun h1 => ⟨fun _ _ => rfl, _, rowsEqR _, ?_⟩)
  · show (k + 1) * 176 ≤ _
    omega
  · unfold apF
    by_cases h : j < k
    · rw [if_pos h]
    · have : j = k := by omega
      rw [if_neg h, this, Nat.sub_self]; rfl
  · have : k = n := by omega
    subst this
    exact hQ
theorem raw11_ok (hP : C.P = Tryz.prog) : SpecOK C 16 S_raw11 := by
  rintro args objs U Os vc h hvc
  unfold S_raw11 at h
  split at h <;> simp only [Option.some.injEq, Prod.mk.injEq, reduceCtorEq] at h
  rename_i n f
  obtain ⟨rfl, rfl, rfl⟩ := h
  have hf := hvc
  generalize mgOf f = g at *
  subst hf
  refine ACalls.frzO 0 ?_
  refine RSpecOK.wpL (prg hP) [] [(3, L_rw11 g (min n 12))] 0 .nil (hP ▸ Tryz.func16) rfl rfl rfl [(loopC Tryz.f16 3, L_rw11 g (min n 12))] (by kernel_rfl) ⟨rw11_loop hP g _, trivial⟩ ?_
  rw [nf_raw11]
  have hm : (min (n : Int) (12 : Int)).toNat = min n 12 := by omega
  rw [hm]
  refine ⟨⟨by omega, by omega⟩, ⟨rfl, ⟨rfl, rfl, rfl, rfl, rfl, fun i hi => absurd hi (Nat.not_lt_zero i)⟩, trivial⟩, by omega, fun _ _ => rfl, _, rowsEqR _, fun _ _ => rfl, ?_⟩
  have hb : Nat.ble (min n 12) (min n 12) = true := Nat.ble_eq_true_of_le (Nat.le_refl _)
  constructor
  · simp [frzC, frzA, frz, hb]
  · rfl
theorem resolveO_ok (hP : C.P = Tryz.prog) (hL : ∀ w, C.laid w → LaidW w) : SpecOK C 24 S_resolveO := by
  rintro args objs U Os vc h hvc
  unfold S_resolveO at h
  split at h <;> simp only [Option.some.injEq, Prod.mk.injEq, reduceCtorEq] at h
  rename_i n o p per t m f fr
  obtain ⟨rfl, rfl, rfl⟩ := h
  obtain ⟨rfl, hn, ⟨hf, hs⟩⟩ := hvc
  refine ACalls.rowEq 0 (f' := mgRow (mgOf f)) rfl (fun i hi => (hf i hi).symm) ?_
  have hb : Nat.ble n n = true := Nat.ble_eq_true_of_le (Nat.le_refl _)
  exact ADet.give (resolve_ok hP hL [.view 15 n (mgRow (mgOf f)), .str o, .str p, .int .i64 per] [] _ _ _ rfl ⟨hn, rfl, hs⟩) (by simp [frzC, frzA, frz, hb]) rfl rfl (fun _ _ => rfl)
theorem mrgV_ok (hP : C.P = Tryz.prog) (hL : ∀ w, C.laid w → LaidW w) : SpecOK C 61 S_mrgV := by
  rintro args objs U Os vc hh hvc
  unfold S_mrgV at hh
  split at hh <;> simp only [Option.some.injEq, Prod.mk.injEq, reduceCtorEq] at hh
  rename_i n f m h
  obtain ⟨rfl, rfl, rfl⟩ := hh
  refine ACalls.frzO 0 (ACalls.mono (mrg_ok hP hL [.view 15 n f, .view 15 m h] [] _ _ _ rfl hvc) ?_)
  rintro u O ⟨rfl, rfl⟩
  have hb : Nat.ble (mrgL (mgOf f) n (mgOf h) m).length (mrgL (mgOf f) n (mgOf h) m).length = true := Nat.ble_eq_true_of_le (Nat.le_refl _)
  refine ⟨fun _ _ => rfl, ?_⟩
  constructor
  · simp [frzC, frzA, frz, hb]
  · rfl
def awM : MG := ⟨[97], 1, 1, ⟨[111, 49], [57, 54, 51, 56, 53, 48, 55, 52], 5, 160, 1, 100, []⟩, ⟨[], [], 0, [], 0⟩⟩
theorem awake11_ok (hP : C.P = Tryz.prog) (hL : ∀ w, C.laid w → LaidW w) : SpecOK C 22 S_awake11 := by
  rintro args objs U Os vc h hvc
  unfold S_awake11 at h
  split at h <;> simp only [Option.some.injEq, Prod.mk.injEq, reduceCtorEq] at h
  obtain ⟨rfl, rfl, rfl⟩ := h
  refine SpecOK.wp0 (prg hP) [(24, .det S_resolveO)] 0 (.cons (resolveO_ok hP hL) .nil) (hP ▸ Tryz.func22) rfl rfl rfl ?_
  rw [nf_aw11]
  generalize hf : chunkA _ _ = f
  have f0 : f 0 = mgRow (atM [awM]) 0 := by rw [← hf]; rfl
  have one : ∀ {p : Nat → Prop}, p 0 → ∀ i, i < 1 → p i := fun h0 i hi => by
    match i, hi with
    | 0, _ => exact h0
  have r0 : mgOf f 0 = atM [awM] 0 := by unfold mgOf; rw [f0]; rfl
  exact ⟨⟨by omega, rfl, by omega⟩, one (by rw [f0]; rfl), ⟨rfl, by omega, ⟨one (by show f 0 = mgC (mgOf f 0); rw [r0, f0]; rfl), one (by rw [r0]; exact ⟨by decide, by decide, by decide, by decide⟩)⟩⟩, rfl, rfl⟩
end Go.Eng
namespace Go.Eng
open Go.Proofs Go.RowKit
variable {C : Ctx} [C.Loose]
set_option maxRecDepth 20000
theorem nf_gaps (g : Nat → MG) (n : Nat) (R : AV → List (Nat × AObj) → Prop) : wpFn te [(61, .det S_mrgVN)] [(4, L_gp (mrgL g n noM 0))] 0 Tryz.f20 [.view 15 n (mgRow g)] [] R = (letI z3 := List.length (mrgL g n noM 0); letI z2 := mrgL (mgOf (mgRow g)) n noM 0; letI z1 := gpF (mrgL g n noM 0) 0; letI z0 := GS.out (gpF (mrgL g n noM 0) z3); (n ≤ 100000 ∧ mgRow g = mgRow (mgOf (mgRow g)) ∧ ∀ (i : Nat), i < n → MG.Sm (mgOf (mgRow g) i)) ∧ (TEq [(3, .own 0 0), (4, .str []), (5, .int .i64 1), (6, .int .i64 0), (10, .view 15 (List.length z2) (mgRow (atM z2))), (11, .int .i64 (↑(List.length z2) : Int)), (12, .int .i64 0)] [(3, .own 0 0), (4, .str (GS.dev z1)), (5, .int .i64 (GS.next z1)), (6, .int .i64 (GS.miss z1)), (10, .view 15 z3 (mgRow (atM (mrgL g n noM 0)))), (11, .int .i64 (↑z3 : Int)), (12, .int .i64 (↑0 : Int))] ∧ RowsEq [(0, .row 83 2 0 (fun (_x : Nat) => []) false)] [(0, .row 83 2 0 (mkRow (atK (GS.out z1))) false)]) ∧ List.length (mrgL g n noM 0) ≤ 100000 ∧ (∀ (m : MG), m ∈ mrgL g n noM 0 → msgF m = (0 : Int)) ∧ (∀ (i : Nat), i < List.length z0 → true = true) ∧ ∃ (O' : List (Nat × AObj)), RowsEq [(0, .row 83 2 (List.length z0) (mkRow (atK z0)) false)] O' ∧ R (.own 0 (List.length z0)) O') := by kernel_rfl
def shrtE2 : TI := (TI.mk (TypeDesc.struct #[Field.mk "Device" (9 : TypeId) 0 false "" "" 0, Field.mk "Sequence" (3 : TypeId) 1 false "" "" 16]) 2 24 (Value.agg #[Value.string (ByteArray.mk #[]), Value.int IntKind.i64 0]) true)
theorem nf_gi_round (M : List MG) (k : Nat) (s : GS) (m : MG) (c : Nat) (P : Nat → Prop) (R : Exit → St → Prop) : roundP ⟨te, [], [], 0, 45, 0⟩ (loopB Tryz.f20 8) [3, 4, 5, 6, 8, 10, 11, 12] [3, 4, 5, 6, 8, 10, 11, 12] [] (S_gi M k s m) P R (S_gi M k s m c) = (letI z4 := (↑(List.length M) : Int); letI z2 := GS.out (gpFill s c); letI z1 := ([(3, .own 0 (List.length z2)), (4, .str (GS.dev (gpFill s c))), (5, .int .i64 (GS.next (gpFill s c))), (6, .int .i64 (GS.miss (gpFill s c))), (8, .ptr 1 0), (10, .view 15 (List.length M) (mgRow (atM M))), (11, .int .i64 z4), (12, .int .i64 (↑k : Int))] : List (Nat × AV)); letI z0 := ([.str (MG.dev m), .int .i64 (MG.seq m), .int .i64 (MG.kind m), .str (VT.o (MG.v m)), .str (VT.p (MG.v m)), .int .i64 (VT.per (MG.v m)), .int .i64 (VT.day (MG.v m)), .int .i64 (VT.st (MG.v m)), .int .i64 (VT.pr (MG.v m)), .str (VT.rep (MG.v m)), .str (DT.o (MG.d m)), .str (DT.p (MG.d m)), .int .i64 (DT.per (MG.d m)), .str (DT.dev (MG.d m)), .int .i64 (DT.num (MG.d m))] : List AV); letI z3 := ([(0, .row 83 2 (List.length z2) (mkRow (atK z2)) false), (1, .cells z0 40)] : List (Nat × AObj)); condP (decide (GS.next (gpFill s c) < MG.seq m)) (condP (decide (GS.miss (gpFill s c) < (400 : Int))) ((2 ≤ 16777216 ∧ 2 = 2 ∧ 1 ≤ 9223372036854775807) ∧ ((1 ≤ 1 ∧ 2 = 2) ∧ List.length z2 ≤ List.length z2 ∧ 2 = 2 ∧ 83 = 83 ∧ 2 = 2 ∧ List.length z2 + 1 ≤ 9223372036854775807 ∧ (List.length z2 + 1) * TI.bytes shrtE2 ≤ 140737488355328) ∧ inR .i64 (GS.miss (gpFill s c) + (1 : Int)) ∧ inR .i64 (GS.next (gpFill s c) + (1 : Int)) ∧ ∃ (i' : Nat), letI z5 := GS.out (gpFill s i'); (TEq [(3, .own 0 (List.length z2 + 1)), (4, .str (GS.dev (gpFill s c))), (5, .int .i64 (GS.next (gpFill s c) + (1 : Int))), (6, .int .i64 (GS.miss (gpFill s c) + (1 : Int))), (8, .ptr 1 0), (10, .view 15 (List.length M) (mgRow (atM M))), (11, .int .i64 z4), (12, .int .i64 (↑k : Int))] [(3, .own 0 (List.length z5)), (4, .str (GS.dev (gpFill s i'))), (5, .int .i64 (GS.next (gpFill s i'))), (6, .int .i64 (GS.miss (gpFill s i'))), (8, .ptr 1 0), (10, .view 15 (List.length M) (mgRow (atM M))), (11, .int .i64 z4), (12, .int .i64 (↑k : Int))] ∧ RowsEq [(0, .row 83 2 (List.length z2 + 1) (apF (List.length z2) (mkRow (atK z2)) (chunkA (TI.sz shrtE2) (.str (GS.dev (gpFill s c)) :: .int .i64 (GS.next (gpFill s c)) :: List.append [] (List.flatten (List.replicate (nat_lit 0) [.str ([]), .int .i64 0]))))) false), (1, .cells z0 40)] [(0, .row 83 2 (List.length z5) (mkRow (atK z5)) false), (1, .cells z0 40)]) ∧ P i') ((∀ (i : Nat), i < List.length z2 → true = true) ∧ ∃ (O' : List (Nat × AObj)), RowsEq z3 O' ∧ R (.exit 2) (St.mk z1 O' 2 []))) ((∀ (i : Nat), i < List.length z2 → true = true) ∧ ∃ (O' : List (Nat × AObj)), RowsEq z3 O' ∧ R (.exit 2) (St.mk z1 O' 2 []))) := by kernel_rfl
theorem nf_gp_round (M : List MG) (k : Nat) (P : Nat → Prop) (R : Exit → St → Prop) : roundP ⟨te, [], [(8, L_gi M k (gpDev (gpF M k) (atM M k)) (atM M k))], 0, 45, 0⟩ (loopB Tryz.f20 4) [3, 4, 5, 6, 10, 11, 12] [3] [] (S_gp M) P R (S_gp M k) = (letI z11 := GS.out (gpF M k); letI z10 := (MG.seq (atM M k) + (1 : Int)); letI z8 := List.length z11; letI z7 := (↑(List.length M) : Int); letI z3 := (atM M (Int.toNat (↑k : Int))); letI z1 := ([(0, .row 83 2 z8 (mkRow (atK z11)) false), (1, .cells [.str (MG.dev z3), .int .i64 (MG.seq z3), .int .i64 (MG.kind z3), .str (VT.o (MG.v z3)), .str (VT.p (MG.v z3)), .int .i64 (VT.per (MG.v z3)), .int .i64 (VT.day (MG.v z3)), .int .i64 (VT.st (MG.v z3)), .int .i64 (VT.pr (MG.v z3)), .str (VT.rep (MG.v z3)), .str (DT.o (MG.d z3)), .str (DT.p (MG.d z3)), .int .i64 (DT.per (MG.d z3)), .str (DT.dev (MG.d z3)), .int .i64 (DT.num (MG.d z3))] 40)] : List (Nat × AObj)); letI z0 := gpDev (gpF M k) (atM M k); letI z12 := GS.out (gpFill z0 0); letI z6 := gpFill z0 (gpCnt z0 (MG.seq (atM M k))); letI z9 := ([(0, .row 83 2 (List.length (GS.out z6)) (mkRow (atK (GS.out z6))) false)] : List (Nat × AObj)); letI z5 := ([(3, .own 0 (List.length z12)), (4, .str (GS.dev (gpFill z0 0))), (5, .int .i64 (GS.next (gpFill z0 0))), (6, .int .i64 (GS.miss (gpFill z0 0))), (8, .ptr 1 0), (10, .view 15 (List.length M) (mgRow (atM M))), (11, .int .i64 z7), (12, .int .i64 (↑k : Int))] : List (Nat × AV)); letI z4 := ([(3, .own 0 (List.length (GS.out z6))), (4, .str (GS.dev z6)), (5, .int .i64 z10), (6, .int .i64 (GS.miss z6)), (10, .view 15 (List.length M) (mgRow (atM M))), (11, .int .i64 z7), (12, .int .i64 ((↑k : Int) + (1 : Int)))] : List (Nat × AV)); letI z2 := ([(0, .row 83 2 (List.length z12) (mkRow (atK z12)) false), (1, .cells [.str (MG.dev (atM M k)), .int .i64 (MG.seq (atM M k)), .int .i64 (MG.kind (atM M k)), .str (VT.o (MG.v (atM M k))), .str (VT.p (MG.v (atM M k))), .int .i64 (VT.per (MG.v (atM M k))), .int .i64 (VT.day (MG.v (atM M k))), .int .i64 (VT.st (MG.v (atM M k))), .int .i64 (VT.pr (MG.v (atM M k))), .str (VT.rep (MG.v (atM M k))), .str (DT.o (MG.d (atM M k))), .str (DT.p (MG.d (atM M k))), .int .i64 (DT.per (MG.d (atM M k))), .str (DT.dev (MG.d (atM M k))), .int .i64 (DT.num (MG.d (atM M k)))] 40)] : List (Nat × AObj)); condP (decide ((↑k : Int) < z7)) (((0 : Int) ≤ (↑k : Int) ∧ (↑k : Int) < z7 ∧ 15 = 15) ∧ condP (!decide (MG.dev z3 = GS.dev (gpF M k))) ((TEq [(3, .own 0 z8), (4, .str (MG.dev z3)), (5, .int .i64 1), (6, .int .i64 0), (8, .ptr 1 0), (10, .view 15 (List.length M) (mgRow (atM M))), (11, .int .i64 z7), (12, .int .i64 (↑k : Int))] z5 ∧ RowsEq z1 z2) ∧ List.length (GS.out z0) ≤ 100000000 ∧ ((-1 : Int) ≤ GS.next z0 ∧ GS.next z0 ≤ (1048577 : Int)) ∧ ((0 : Int) ≤ GS.miss z0 ∧ GS.miss z0 ≤ (400 : Int)) ∧ ((1 : Int) ≤ MG.seq (atM M k) ∧ MG.seq (atM M k) ≤ (1048576 : Int)) ∧ inR .i64 z10 ∧ inR .i64 ((↑k : Int) + (1 : Int)) ∧ ∃ (i' : Nat), (TEq z4 [(3, .own 0 (List.length (GS.out (gpF M i')))), (4, .str (GS.dev (gpF M i'))), (5, .int .i64 (GS.next (gpF M i'))), (6, .int .i64 (GS.miss (gpF M i'))), (10, .view 15 (List.length M) (mgRow (atM M))), (11, .int .i64 z7), (12, .int .i64 (↑i' : Int))] ∧ RowsEq z9 [(0, .row 83 2 (List.length (GS.out (gpF M i'))) (mkRow (atK (GS.out (gpF M i')))) false)]) ∧ P i') ((TEq [(3, .own 0 z8), (4, .str (GS.dev (gpF M k))), (5, .int .i64 (GS.next (gpF M k))), (6, .int .i64 (GS.miss (gpF M k))), (8, .ptr 1 0), (10, .view 15 (List.length M) (mgRow (atM M))), (11, .int .i64 z7), (12, .int .i64 (↑k : Int))] z5 ∧ RowsEq z1 z2) ∧ List.length (GS.out z0) ≤ 100000000 ∧ ((-1 : Int) ≤ GS.next z0 ∧ GS.next z0 ≤ (1048577 : Int)) ∧ ((0 : Int) ≤ GS.miss z0 ∧ GS.miss z0 ≤ (400 : Int)) ∧ ((1 : Int) ≤ MG.seq (atM M k) ∧ MG.seq (atM M k) ≤ (1048576 : Int)) ∧ inR .i64 z10 ∧ inR .i64 ((↑k : Int) + (1 : Int)) ∧ ∃ (i' : Nat), (TEq z4 [(3, .own 0 (List.length (GS.out (gpF M i')))), (4, .str (GS.dev (gpF M i'))), (5, .int .i64 (GS.next (gpF M i'))), (6, .int .i64 (GS.miss (gpF M i'))), (10, .view 15 (List.length M) (mgRow (atM M))), (11, .int .i64 z7), (12, .int .i64 (↑i' : Int))] ∧ RowsEq z9 [(0, .row 83 2 (List.length (GS.out (gpF M i'))) (mkRow (atK (GS.out (gpF M i')))) false)]) ∧ P i')) ((∀ (i : Nat), i < List.length z11 → true = true) ∧ ∃ (O' : List (Nat × AObj)), RowsEq [(0, .row 83 2 z8 (mkRow (atK z11)) false)] O' ∧ R (.exit 0) (St.mk [(3, .own 0 z8)] O' 1 []))) := by kernel_rfl
theorem mrgVN_ok (hP : C.P = Tryz.prog) (hL : ∀ w, C.laid w → LaidW w) : SpecOK C 61 S_mrgVN := by
  rintro args objs U Os vc h hvc
  unfold S_mrgVN at h
  split at h <;> simp only [Option.some.injEq, Prod.mk.injEq, reduceCtorEq] at h
  rename_i n f
  obtain ⟨rfl, rfl, rfl⟩ := h
  obtain ⟨hn, hf, hs⟩ := hvc
  refine ACalls.nilArg 15 (mgRow noM) ?_
  exact mrgV_ok hP hL _ _ _ _ _ rfl ⟨hn, Nat.zero_le _, hf, rfl, hs, fun i hi => absurd hi (Nat.not_lt_zero i)⟩
theorem gpCnt_le (s : GS) (seq : Int) (h : 0 ≤ s.miss) : (gpCnt s seq : Int) ≤ 400 := by
  unfold gpCnt; omega
theorem gpFill_succ (s : GS) (c : Nat) : gpFill s (c + 1) = ⟨(gpFill s c).out ++ [(s.dev, s.next + (c : Int))], s.dev, s.next + ((c : Int) + 1), s.miss + ((c : Int) + 1)⟩ := by
  unfold gpFill
  rw [List.range_succ, List.map_append, ← List.append_assoc]
  rfl
theorem gpFill_len (s : GS) (c : Nat) : (gpFill s c).out.length = s.out.length + c := by
  unfold gpFill
  simp
theorem gpFill_zero (s : GS) : gpFill s 0 = s := by
  unfold gpFill
  simp
theorem gi_loop (hP : C.P = Tryz.prog) (M : List MG) (k : Nat) (s : GS) (m : MG) : LoopOK C 0 45 (loopC Tryz.f20 8) (L_gi M k s m) := by
  have _ : C.Loose := inferInstance
  rintro st Q ⟨h0, ho, hx, hm, hs, hQ⟩
  refine LoopOK.mk (prg hP) [] 0 .nil [3, 4, 5, 6, 8, 10, 11, 12] [3, 4, 5, 6, 8, 10, 11, 12] [] (S_gi M k s m) (fun c => c ≤ gpCnt s m.seq) (fun c => gpCnt s m.seq - c) 0 (Nat.zero_le _) h0 (fun c hc => ?_) (fun i => ⟨fun _ _ => rfl, trivial⟩)
  rw [nf_gi_round]
  have hlen := gpFill_len s c
  refine condP_dec (fun h1 => condP_dec (fun h2 => ?_) (fun h2 => ?_)) (fun h1 => ?_)
  · have h1 : s.next + (c : Int) < m.seq := h1
    have h2 : s.miss + (c : Int) < 400 := h2
    have hlt : c < gpCnt s m.seq := by unfold gpCnt; omega
    have hc4 := gpCnt_le s m.seq hm.1
    have e1 : (gpFill s (c + 1)).out = (gpFill s c).out ++ [(s.dev, s.next + (c : Int))] := by rw [gpFill_succ]
    have e3 : (gpFill s (c + 1)).next = (gpFill s c).next + 1 := by show s.next + ((c + 1 : Nat) : Int) = s.next + (c : Int) + 1; omega
    have e4 : (gpFill s (c + 1)).miss = (gpFill s c).miss + 1 := by show s.miss + ((c + 1 : Nat) : Int) = s.miss + (c : Int) + 1; omega
    refine ⟨⟨by omega, rfl, by omega⟩, ⟨⟨Nat.le_refl _, rfl⟩, Nat.le_refl _, rfl, rfl, rfl, by omega, ?_⟩, ?_, ?_, c + 1, ?_, by omega, by omega⟩
    · show ((gpFill s c).out.length + 1) * 24 ≤ _
      omega
    · show inR .i64 (s.miss + (c : Int) + 1)
      simp only [inR]; omega
    · show inR .i64 (s.next + (c : Int) + 1)
      simp only [inR]; omega
    · rw [e1, e3, e4, List.length_append]
      exact ⟨rfl, ⟨rfl, rfl, rfl, rfl, rfl, fun j hj => putRowL (fun x : List UInt8 × Int => [AV.str x.1, .int .i64 x.2]) (gpFill s c).out (s.dev, s.next + (c : Int)) _ rfl j hj⟩, rfl, trivial⟩
  · have h2 : ¬ s.miss + (c : Int) < 400 := h2
    have : gpCnt s m.seq = c := by unfold gpCnt at hc ⊢; omega
    rw [this] at hQ
    exact ⟨fun _ _ => rfl, _, rowsEqR _, hQ⟩
  · have h1 : ¬ s.next + (c : Int) < m.seq := h1
    have : gpCnt s m.seq = c := by unfold gpCnt at hc ⊢; omega
    rw [this] at hQ
    exact ⟨fun _ _ => rfl, _, rowsEqR _, hQ⟩
theorem gp_loop (hP : C.P = Tryz.prog) (M : List MG) : LoopOK C 0 45 (loopC Tryz.f20 4) (L_gp M) := by
  rintro st Q ⟨h0, hn, hv, hQ⟩
  refine AWP.ownNil 3 83 2 ?_
  refine LoopOK.mkI (prg hP) [] (fun k : Nat => [(8, L_gi M k (gpDev (gpF M k) (atM M k)) (atM M k))]) 0 .nil
    (fun k => [(loopC Tryz.f20 8, L_gi M k (gpDev (gpF M k) (atM M k)) (atM M k))])
    (fun k => by kernel_rfl) (fun k => ⟨gi_loop hP _ _ _ _, trivial⟩) [3, 4, 5, 6, 10, 11, 12] [3] [] (S_gp M) (fun k => k ≤ M.length ∧ (gpF M k).out.length ≤ 400 * k ∧ (1 ≤ (gpF M k).next ∧ (gpF M k).next ≤ 1048577) ∧ (0 ≤ (gpF M k).miss ∧ (gpF M k).miss ≤ 400)) (fun k => M.length - k) 0 ⟨Nat.zero_le _, Nat.zero_le _, (by decide : (1 : Int) ≤ 1 ∧ (1 : Int) ≤ 1048577), (by decide : (0 : Int) ≤ 0 ∧ (0 : Int) ≤ 400)⟩ h0 (fun k hk => ?_) (fun i => ⟨fun _ _ => rfl, trivial⟩)
  obtain ⟨hk, i1, i2, i3⟩ := hk
  rw [nf_gp_round, Int.toNat_natCast, gpFill_zero]
  refine condP_dec (fun h1 => ?_) (fun h1 => ?_)
  · have hkM : k < M.length := by omega
    obtain ⟨_, q1, q2⟩ := msgF_seq (hv _ (atM_mem hkM))
    have hsu : gpF M (k + 1) = ⟨(gpFill (gpDev (gpF M k) (atM M k)) (gpCnt (gpDev (gpF M k) (atM M k)) (atM M k).seq)).out, (atM M k).dev, (atM M k).seq + 1, (gpFill (gpDev (gpF M k) (atM M k)) (gpCnt (gpDev (gpF M k) (atM M k)) (atM M k).seq)).miss⟩ := rfl
    have b1 : ¬ (atM M k).dev = (gpF M k).dev → gpDev (gpF M k) (atM M k) = ⟨(gpF M k).out, (atM M k).dev, 1, 0⟩ := fun q => by unfold gpDev; rw [decide_eq_false q]; rfl
    have b2 : (atM M k).dev = (gpF M k).dev → gpDev (gpF M k) (atM M k) = gpF M k := fun q => by unfold gpDev; rw [decide_eq_true q]; rfl
    have facts : (gpDev (gpF M k) (atM M k)).dev = (atM M k).dev ∧ (gpDev (gpF M k) (atM M k)).out.length ≤ 400 * k ∧ (1 ≤ (gpDev (gpF M k) (atM M k)).next ∧ (gpDev (gpF M k) (atM M k)).next ≤ 1048577) ∧ (0 ≤ (gpDev (gpF M k) (atM M k)).miss ∧ (gpDev (gpF M k) (atM M k)).miss ≤ 400) := by
      by_cases q : (atM M k).dev = (gpF M k).dev
      · rw [b2 q]; exact ⟨q.symm, i1, i2, i3⟩
      · rw [b1 q]; exact ⟨rfl, i1, (by decide : (1 : Int) ≤ 1 ∧ (1 : Int) ≤ 1048577), (by decide : (0 : Int) ≤ 0 ∧ (0 : Int) ≤ 400)⟩
    generalize gpDev (gpF M k) (atM M k) = s1 at *
    obtain ⟨f1, f2, f3, f4⟩ := facts
    have hcnt := gpCnt_le s1 (atM M k).seq f4.1
    have hlen := gpFill_len s1 (gpCnt s1 (atM M k).seq)
    have hmiss : s1.miss + (gpCnt s1 (atM M k).seq : Int) ≤ 400 := by unfold gpCnt; omega
    refine ⟨⟨by omega, by omega, rfl⟩, condP_ndec (fun q => ⟨?_, by omega, by omega, by omega, ⟨q1, q2⟩, by simp only [inR]; omega, by simp only [inR]; omega, k + 1, ?_, ⟨hkM, ?_, ?_, ?_⟩, by omega⟩) (fun q => ⟨?_, by omega, by omega, by omega, ⟨q1, q2⟩, by simp only [inR]; omega, by simp only [inR]; omega, k + 1, ?_, ⟨hkM, ?_, ?_, ?_⟩, by omega⟩)⟩
    · rw [b1 q]; exact ⟨rfl, rowsEqR _⟩
    · rw [hsu, show (gpFill s1 (gpCnt s1 (atM M k).seq)).dev = (atM M k).dev from f1]
      exact ⟨rfl, rowsEqR _⟩
    · rw [hsu]; show (gpFill s1 (gpCnt s1 (atM M k).seq)).out.length ≤ _; omega
    · rw [hsu]; show 1 ≤ (atM M k).seq + 1 ∧ (atM M k).seq + 1 ≤ 1048577; omega
    · rw [hsu]; show 0 ≤ s1.miss + (gpCnt s1 (atM M k).seq : Int) ∧ s1.miss + (gpCnt s1 (atM M k).seq : Int) ≤ 400; omega
    · rw [b2 q]; exact ⟨rfl, rowsEqR _⟩
    · rw [hsu, show (gpFill s1 (gpCnt s1 (atM M k).seq)).dev = (atM M k).dev from f1]
      exact ⟨rfl, rowsEqR _⟩
    · rw [hsu]; show (gpFill s1 (gpCnt s1 (atM M k).seq)).out.length ≤ _; omega
    · rw [hsu]; show 1 ≤ (atM M k).seq + 1 ∧ (atM M k).seq + 1 ≤ 1048577; omega
    · rw [hsu]; show 0 ≤ s1.miss + (gpCnt s1 (atM M k).seq : Int) ∧ s1.miss + (gpCnt s1 (atM M k).seq : Int) ≤ 400; omega
  · have : k = M.length := by omega
    subst this
    exact ⟨fun _ _ => rfl, _, rowsEqR _, hQ⟩
theorem gaps_ok (hP : C.P = Tryz.prog) (hL : ∀ w, C.laid w → LaidW w) : SpecOK C 20 S_gaps := by
  rintro args objs U Os vc h hvc
  unfold S_gaps at h
  split at h <;> simp only [Option.some.injEq, Prod.mk.injEq, reduceCtorEq] at h
  rename_i n f
  obtain ⟨rfl, rfl, rfl⟩ := h
  obtain ⟨hn, hf, hs⟩ := hvc
  generalize mgOf f = g at *
  subst hf
  refine ACalls.frzO 0 ?_
  refine RSpecOK.wpL (prg hP) [(61, .det S_mrgVN)] [(4, L_gp (mrgL g n noM 0))] 0 (.cons (mrgVN_ok hP hL) .nil) (hP ▸ Tryz.func20) rfl rfl rfl [(loopC Tryz.f20 4, L_gp (mrgL g n noM 0))] (by kernel_rfl) ⟨gp_loop hP _, trivial⟩ ?_
  rw [nf_gaps]
  have h1 := mrgL_len g n noM 0
  refine ⟨⟨hn, rfl, hs⟩, ⟨rfl, ⟨rfl, rfl, rfl, rfl, rfl, fun i hi => absurd hi (Nat.not_lt_zero i)⟩, trivial⟩, by omega, fun m hm => (mrgF_mem.1 hm).2, fun _ _ => rfl, _, rowsEqR _, fun _ _ => rfl, ?_⟩
  unfold gapL
  generalize (gpF (mrgL g n noM 0) (mrgL g n noM 0).length).out = L
  have hb : Nat.ble L.length L.length = true := Nat.ble_eq_true_of_le (Nat.le_refl _)
  constructor
  · simp [frzC, frzA, frz, hb]
  · rfl
end Go.Eng
namespace Go.Eng
open Go.Proofs Go.RowKit
variable {C : Ctx} [C.Loose]
set_option maxRecDepth 20000
end Go.Eng
namespace Go.Eng
open Go.Proofs Go.RowKit
variable {C : Ctx} [C.Loose]
set_option maxRecDepth 20000
theorem nf_period (p : Int) (R : AV → List (Nat × AObj) → Prop) : wpFn te [] [] 0 Tryz.f163 [.int .i64 p] [] R = (condP (decide ((0 : Int) ≤ p)) (R (.bool (decide (p ≤ (5999 : Int)))) []) (R (.bool false) [])) := by kernel_rfl
theorem nf_slotR (o p : List UInt8) (per : Int) (R : AV → List (Nat × AObj) → Prop) : wpFn te [(75, .det S_nameR), (162, .det S_validID), (163, .det S_period)] [] 0 Tryz.f130 [.str o, .str p, .int .i64 per] [] R = (List.length o ≤ 9223372036854775806 ∧ condP (nameF o) (True ∧ condP (validIDF p) (True ∧ R (.bool (decide ((0 : Int) ≤ per) && decide (per ≤ (5999 : Int)))) []) (R (.bool false) [])) (R (.bool false) [])) := by kernel_rfl
theorem period_ok (hP : C.P = Tryz.prog) : SpecOK C 163 S_period := by
  have _ : C.Loose := inferInstance
  rintro args objs U Os vc h hvc
  unfold S_period at h
  split at h <;> simp only [Option.some.injEq, Prod.mk.injEq, reduceCtorEq] at h
  obtain ⟨rfl, rfl, rfl⟩ := h
  refine SpecOK.wp0 (prg hP) [] 0 .nil (hP ▸ Tryz.func163) rfl rfl rfl ?_
  rw [nf_period]
  exact condP_intro (fun h => by rw [h]; exact ⟨rfl, rfl⟩) (fun h => by rw [h]; exact ⟨rfl, rfl⟩)
theorem slotR_ok (hP : C.P = Tryz.prog) : SpecOK C 130 S_slotR := by
  rintro args objs U Os vc h hvc
  unfold S_slotR at h
  split at h <;> simp only [Option.some.injEq, Prod.mk.injEq, reduceCtorEq] at h
  rename_i o p per
  obtain ⟨rfl, rfl, rfl⟩ := h
  refine SpecOK.wp0 (prg hP) [(75, .det S_nameR), (162, .det S_validID), (163, .det S_period)] 0 (.cons (nameR_ok hP) (.cons (validIDR_ok hP) (.cons (period_ok hP) .nil))) (hP ▸ Tryz.func130) rfl rfl rfl ?_
  rw [nf_slotR]
  unfold slotF
  exact ⟨by omega, condP_intro (fun h1 => ⟨trivial, condP_intro (fun h2 => ⟨trivial, by rw [h1, h2, Bool.true_and, Bool.true_and]; exact ⟨rfl, rfl⟩⟩) (fun h2 => by rw [h1, h2]; exact ⟨rfl, rfl⟩)⟩) (fun h1 => by rw [h1]; exact ⟨rfl, rfl⟩)⟩
end Go.Eng
