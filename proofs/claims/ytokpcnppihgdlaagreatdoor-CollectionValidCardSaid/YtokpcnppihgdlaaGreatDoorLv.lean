/- The laws of messages: their helpers. -/
import Derived.Test.YtokpcnppihgdlaaGreatDoorLp
import Derived.Test.YtokpcnppihgdlaaGreatDoorLs
import Derived.Test.YtokpcnppihgdlaaGreatDoorLu
import Derived.Test.YtokpcnppihgdlaaGreatDoorLt
namespace Go.Eng
open Go.Proofs Go.RowKit
variable {C : Ctx} [C.Loose]
set_option maxRecDepth 20000
theorem nf_cand (o p : List UInt8) (per : Int) (g : Nat → MG) (n : Nat) (R : AV → List (Nat × AObj) → Prop) : wpFn te [] [(3, L_cnd o p per g n)] 0 Tryz.f78 [.view 15 n (mgRow g), .str o, .str p, .int .i64 per] [] R = (letI z0 := canL o p per g n; (TEq [(1, .str o), (2, .str p), (3, .int .i64 per), (9, .own 0 0), (13, .view 15 n (mgRow g)), (14, .int .i64 (↑n : Int)), (15, .int .i64 0)] [(1, .str o), (2, .str p), (3, .int .i64 per), (9, .own 0 0), (13, .view 15 n (mgRow g)), (14, .int .i64 (↑n : Int)), (15, .int .i64 (↑0 : Int))] ∧ RowsEq [(0, .row 56 15 0 (fun (_x : Nat) => []) false)] [(0, .row 56 15 0 (mgRow (atM (canL o p per g 0))) false)]) ∧ n ≤ 1000000 ∧ (∀ (i : Nat), i < List.length z0 → true = true) ∧ ∃ (O' : List (Nat × AObj)), RowsEq [(0, .row 56 15 (List.length z0) (mgRow (atM z0)) false)] O' ∧ R (.own 0 (List.length z0)) O') := by kernel_rfl
theorem nf_cd2_round (o p : List UInt8) (per : Int) (g : Nat → MG) (n k : Nat) (P : Nat → Prop) (R : Exit → St → Prop) : roundP ⟨te, [], [], 0, 68, 0⟩ (loopB Tryz.f78 3) [1, 2, 3, 9, 13, 14, 15] [9] [] (S_cnd o p per g n) P R (S_cnd o p per g n k) = (letI z3 := (g (Int.toNat (↑k : Int))); letI z2 := canL o p per g k; letI z9 := List.length z2 + 1; letI z8 := ([(0, .row 56 15 (List.length z2) (mgRow (atM z2)) false)] : List (Nat × AObj)); letI z5 := ([(1, .str o), (2, .str p), (3, .int .i64 per), (9, .own 0 z9), (13, .view 15 n (mgRow g)), (14, .int .i64 (↑n : Int)), (15, .int .i64 ((↑k : Int) + (1 : Int)))] : List (Nat × AV)); letI z4 := (↑(List.length z2) : Int); letI z7 := (Int.toNat (z4 - (1 : Int)) + 1); letI z1 := (chunkA (TI.sz shrt0) (.str (MG.dev z3) :: .int .i64 (MG.seq z3) :: .int .i64 (MG.kind z3) :: .str (VT.o (MG.v z3)) :: .str (VT.p (MG.v z3)) :: .int .i64 (VT.per (MG.v z3)) :: .int .i64 (VT.day (MG.v z3)) :: .int .i64 (VT.st (MG.v z3)) :: .int .i64 (VT.pr (MG.v z3)) :: .str (VT.rep (MG.v z3)) :: .str (DT.o (MG.d z3)) :: .str (DT.p (MG.d z3)) :: .int .i64 (DT.per (MG.d z3)) :: .str (DT.dev (MG.d z3)) :: .int .i64 (DT.num (MG.d z3)) :: List.append [] shrt1)); letI z6 := ([(0, .row 56 15 z9 (apF (List.length z2) (mgRow (atM z2)) z1) false)] : List (Nat × AObj)); letI z0 := (inR .i64 ((↑k : Int) + (1 : Int)) ∧ ∃ (i' : Nat), (TEq [(1, .str o), (2, .str p), (3, .int .i64 per), (9, .own 0 (List.length z2)), (13, .view 15 n (mgRow g)), (14, .int .i64 (↑n : Int)), (15, .int .i64 ((↑k : Int) + (1 : Int)))] [(1, .str o), (2, .str p), (3, .int .i64 per), (9, .own 0 (List.length (canL o p per g i'))), (13, .view 15 n (mgRow g)), (14, .int .i64 (↑n : Int)), (15, .int .i64 (↑i' : Int))] ∧ RowsEq z8 [(0, .row 56 15 (List.length (canL o p per g i')) (mgRow (atM (canL o p per g i'))) false)]) ∧ P i'); condP (decide ((↑k : Int) < (↑n : Int))) (((0 : Int) ≤ (↑k : Int) ∧ (↑k : Int) < (↑n : Int) ∧ 15 = 15) ∧ condP (!decide (MG.kind z3 = (1 : Int))) z0 (condP (!decide (VT.o (MG.v z3) = o)) z0 (condP (!decide (VT.p (MG.v z3) = p)) z0 (condP (!decide (VT.per (MG.v z3) = per)) z0 (condP (decide ((0 : Int) < z4)) (inR .i64 (z4 - (1 : Int)) ∧ ((0 : Int) ≤ z4 - (1 : Int) ∧ z4 - (1 : Int) < z4) ∧ (Int.toNat (z4 - (1 : Int)) < List.length z2 ∧ 15 = 15) ∧ condP (decide (MG.dev (atM z2 (Int.toNat (z4 - (1 : Int)))) = MG.dev z3)) (inR .i64 (z4 - (1 : Int)) ∧ ((0 : Int) ≤ z4 - (1 : Int) ∧ z4 - (1 : Int) ≤ z4) ∧ (15 ≤ 16777216 ∧ 15 = 15 ∧ 1 ≤ 9223372036854775807) ∧ ((1 ≤ 1 ∧ 15 = 15) ∧ Int.toNat (z4 - (1 : Int)) ≤ List.length z2 ∧ 15 = 15 ∧ 56 = 56 ∧ 15 = 15 ∧ Int.toNat (z4 - (1 : Int)) + 1 ≤ 9223372036854775807 ∧ z7 * TI.bytes shrt0 ≤ 140737488355328) ∧ inR .i64 ((↑k : Int) + (1 : Int)) ∧ ∃ (i' : Nat), (TEq [(1, .str o), (2, .str p), (3, .int .i64 per), (9, .own 0 z7), (13, .view 15 n (mgRow g)), (14, .int .i64 (↑n : Int)), (15, .int .i64 ((↑k : Int) + (1 : Int)))] [(1, .str o), (2, .str p), (3, .int .i64 per), (9, .own 0 (List.length (canL o p per g i'))), (13, .view 15 n (mgRow g)), (14, .int .i64 (↑n : Int)), (15, .int .i64 (↑i' : Int))] ∧ RowsEq [(0, .row 56 15 z7 (apF (Int.toNat (z4 - (1 : Int))) (mgRow (atM z2)) z1) false)] [(0, .row 56 15 (List.length (canL o p per g i')) (mgRow (atM (canL o p per g i'))) false)]) ∧ P i') ((15 ≤ 16777216 ∧ 15 = 15 ∧ 1 ≤ 9223372036854775807) ∧ ((1 ≤ 1 ∧ 15 = 15) ∧ List.length z2 ≤ List.length z2 ∧ 15 = 15 ∧ 56 = 56 ∧ 15 = 15 ∧ List.length z2 + 1 ≤ 9223372036854775807 ∧ z9 * TI.bytes shrt0 ≤ 140737488355328) ∧ inR .i64 ((↑k : Int) + (1 : Int)) ∧ ∃ (i' : Nat), (TEq z5 [(1, .str o), (2, .str p), (3, .int .i64 per), (9, .own 0 (List.length (canL o p per g i'))), (13, .view 15 n (mgRow g)), (14, .int .i64 (↑n : Int)), (15, .int .i64 (↑i' : Int))] ∧ RowsEq z6 [(0, .row 56 15 (List.length (canL o p per g i')) (mgRow (atM (canL o p per g i'))) false)]) ∧ P i')) ((15 ≤ 16777216 ∧ 15 = 15 ∧ 1 ≤ 9223372036854775807) ∧ ((1 ≤ 1 ∧ 15 = 15) ∧ List.length z2 ≤ List.length z2 ∧ 15 = 15 ∧ 56 = 56 ∧ 15 = 15 ∧ List.length z2 + 1 ≤ 9223372036854775807 ∧ z9 * TI.bytes shrt0 ≤ 140737488355328) ∧ inR .i64 ((↑k : Int) + (1 : Int)) ∧ ∃ (i' : Nat), (TEq z5 [(1, .str o), (2, .str p), (3, .int .i64 per), (9, .own 0 (List.length (canL o p per g i'))), (13, .view 15 n (mgRow g)), (14, .int .i64 (↑n : Int)), (15, .int .i64 (↑i' : Int))] ∧ RowsEq z6 [(0, .row 56 15 (List.length (canL o p per g i')) (mgRow (atM (canL o p per g i'))) false)]) ∧ P i')))))) ((∀ (i : Nat), i < List.length z2 → true = true) ∧ ∃ (O' : List (Nat × AObj)), RowsEq z8 O' ∧ R (.exit 0) (St.mk [(9, .own 0 (List.length z2))] O' 1 []))) := by kernel_rfl
theorem snocM {L : List MG} {m : MG} {t : Nat} (ht : t ≤ L.length) (ch : Nat → List AV) (hch : ch 0 = mgC m) (j : Nat) (hj : j < t + 1) : apF t (mgRow (atM L)) ch j = mgRow (atM (L.take t ++ [m])) j := by
  have hl : (L.take t).length = t := by simp [ht]
  unfold apF
  by_cases h : j < t
  · rw [if_pos h]
    have e : atM (L.take t ++ [m]) j = atM L j := by
      unfold atM
      rw [List.getD_eq_getElem?_getD, List.getD_eq_getElem?_getD, List.getElem?_append_left (by omega), List.getElem?_take, if_pos h]
    unfold mgRow
    rw [e]
  · have : j = t := by omega
    subst this
    rw [if_neg h, Nat.sub_self, hch]
    have e : atM (L.take j ++ [m]) j = m := by
      unfold atM
      rw [List.getD_eq_getElem?_getD, List.getElem?_append_right (by omega), hl, Nat.sub_self]; rfl
    unfold mgRow
    rw [e]; rfl
theorem stpC_len (L : List MG) (m : MG) : (stpC L m).length ≤ L.length + 1 := by
  unfold stpC
  cases decide (0 < L.length) && decide ((atM L (L.length - 1)).dev = m.dev) with
  | true => simp
  | false => simp
theorem canL_len (o p : List UInt8) (per : Int) (g : Nat → MG) : ∀ k, (canL o p per g k).length ≤ k
  | 0 => Nat.le_refl _
  | k + 1 => by
    have ih := canL_len o p per g k
    rw [canL]
    cases selF o p per (g k) with
    | true => have := stpC_len (canL o p per g k) (g k); show (stpC _ _).length ≤ _; omega
    | false => show (canL o p per g k).length ≤ _; omega
theorem cnd_loop (hP : C.P = Tryz.prog) (o p : List UInt8) (per : Int) (g : Nat → MG) (n : Nat) : LoopOK C 0 68 (loopC Tryz.f78 3) (L_cnd o p per g n) := by
  have _ : C.Loose := inferInstance
  rintro st Q ⟨h0, hn, hQ⟩
  refine AWP.ownNil 9 56 15 ?_
  refine LoopOK.mk (prg hP) [] 0 .nil [1, 2, 3, 9, 13, 14, 15] [9] [] (S_cnd o p per g n) (fun k => k ≤ n) (fun k => n - k) 0 (Nat.zero_le _) h0 (fun k hk => ?_) (fun i => ⟨fun _ _ => rfl, trivial⟩)
  have hlen := canL_len o p per g k
  rw [nf_cd2_round, Int.toNat_natCast]
  have skip : selF o p per (g k) = false → canL o p per g (k + 1) = canL o p per g k := fun h => by rw [canL, h]; rfl
  have go : selF o p per (g k) = true → canL o p per g (k + 1) = stpC (canL o p per g k) (g k) := fun h => by rw [canL, h]; rfl
  generalize hC : canL o p per g k = L at *
  have no : k < n → selF o p per (g k) = false → inR .i64 ((k : Int) + 1) ∧ ∃ i' : Nat, (TEq [(1, .str o), (2, .str p), (3, .int .i64 per), (9, .own 0 L.length), (13, .view 15 n (mgRow g)), (14, .int .i64 (n : Int)), (15, .int .i64 ((k : Int) + 1))] [(1, .str o), (2, .str p), (3, .int .i64 per), (9, .own 0 (canL o p per g i').length), (13, .view 15 n (mgRow g)), (14, .int .i64 (n : Int)), (15, .int .i64 (i' : Int))] ∧
      RowsEq [(0, .row 56 15 L.length (mgRow (atM L)) false)] [(0, .row 56 15 (canL o p per g i').length (mgRow (atM (canL o p per g i'))) false)]) ∧ (i' ≤ n ∧ n - i' < n - k) := fun hk' h => by
    refine ⟨by simp only [inR]; omega, k + 1, ?_, by omega, by omega⟩
    rw [skip h]
    exact ⟨rfl, ⟨rfl, rfl, rfl, rfl, rfl, fun _ _ => rfl⟩, trivial⟩
  refine condP_dec (fun h1 => ⟨⟨by omega, by omega, rfl⟩, condP_ndec (fun q => no (by omega) (by unfold selF; rw [decide_eq_false q]; rfl)) (fun q1 => condP_ndec (fun q => no (by omega) (by unfold selF; rw [decide_eq_true q1, decide_eq_false q]; rfl)) (fun q2 => condP_ndec (fun q => no (by omega) (by unfold selF; rw [decide_eq_true q1, decide_eq_true q2, decide_eq_false q]; rfl)) (fun q3 => condP_ndec (fun q => no (by omega) (by unfold selF; rw [decide_eq_true q1, decide_eq_true q2, decide_eq_true q3, decide_eq_false q]; rfl)) (fun q4 => ?_))))⟩) (fun h1 => ?_)
  · have hg := go (by unfold selF; rw [decide_eq_true q1, decide_eq_true q2, decide_eq_true q3, decide_eq_true q4]; rfl)
    have app : canL o p per g (k + 1) = L ++ [g k] → ∀ ch : Nat → List AV, ch 0 = mgC (g k) → ∃ i' : Nat, (TEq [(1, .str o), (2, .str p), (3, .int .i64 per), (9, .own 0 (L.length + 1)), (13, .view 15 n (mgRow g)), (14, .int .i64 (n : Int)), (15, .int .i64 ((k : Int) + 1))] [(1, .str o), (2, .str p), (3, .int .i64 per), (9, .own 0 (canL o p per g i').length), (13, .view 15 n (mgRow g)), (14, .int .i64 (n : Int)), (15, .int .i64 (i' : Int))] ∧
        RowsEq [(0, .row 56 15 (L.length + 1) (apF L.length (mgRow (atM L)) ch) false)] [(0, .row 56 15 (canL o p per g i').length (mgRow (atM (canL o p per g i'))) false)]) ∧ (i' ≤ n ∧ n - i' < n - k) := fun e ch hch => by
      refine ⟨k + 1, ?_, by omega, by omega⟩
      rw [e, List.length_append]
      refine ⟨rfl, ⟨rfl, rfl, rfl, rfl, rfl, fun j hj => ?_⟩, trivial⟩
      have := snocM (Nat.le_refl L.length) ch hch j hj
      rw [List.take_length] at this
      exact this
    refine condP_dec (fun r1 => ?_) (fun r1 => ?_)
    · have e1 : ((L.length : Int) - 1).toNat = L.length - 1 := by omega
      rw [e1]
      refine ⟨by simp only [inR]; omega, ⟨by omega, by omega⟩, ⟨by omega, rfl⟩, condP_dec (fun r2 => ?_) (fun r2 => ?_)⟩
      · have e : canL o p per g (k + 1) = L.take (L.length - 1) ++ [g k] := by rw [hg, stpC, decide_eq_true (show 0 < L.length by omega), decide_eq_true r2]; rfl
        have hl : (L.take (L.length - 1)).length = L.length - 1 := by simp
        refine ⟨by simp only [inR]; omega, ⟨by omega, by omega⟩, ⟨by omega, rfl, by omega⟩, ⟨⟨Nat.le_refl _, rfl⟩, by omega, rfl, rfl, rfl, by omega, ?_⟩, by simp only [inR]; omega, k + 1, ?_, by omega, by omega⟩
        · show (L.length - 1 + 1) * 176 ≤ _
          omega
        · rw [e, List.length_append, hl]
          exact ⟨rfl, ⟨rfl, rfl, rfl, rfl, rfl, fun j hj => snocM (by omega) _ rfl j hj⟩, trivial⟩
      · have e : canL o p per g (k + 1) = L ++ [g k] := by rw [hg, stpC, decide_eq_false r2, Bool.and_false]; rfl
        refine ⟨⟨by omega, rfl, by omega⟩, ⟨⟨Nat.le_refl _, rfl⟩, Nat.le_refl _, rfl, rfl, rfl, by omega, ?_⟩, by simp only [inR]; omega, app e _ rfl⟩
        show (L.length + 1) * 176 ≤ _
        omega
    · have e : canL o p per g (k + 1) = L ++ [g k] := by rw [hg, stpC, decide_eq_false (show ¬ 0 < L.length by omega)]; rfl
      refine ⟨⟨by omega, rfl, by omega⟩, ⟨⟨Nat.le_refl _, rfl⟩, Nat.le_refl _, rfl, rfl, rfl, by omega, ?_⟩, by simp only [inR]; omega, app e _ rfl⟩
      show (L.length + 1) * 176 ≤ _
      omega
  · have : k = n := by omega
    subst this
    rw [hC] at hQ
    exact ⟨fun _ _ => rfl, _, rowsEqR _, hQ⟩
theorem cand_ok (hP : C.P = Tryz.prog) : SpecOK C 78 S_cand := by
  rintro args objs U Os vc h hvc
  unfold S_cand at h
  split at h <;> simp only [Option.some.injEq, Prod.mk.injEq, reduceCtorEq] at h
  rename_i n f o p per
  obtain ⟨rfl, rfl, rfl⟩ := h
  obtain ⟨hn, hf⟩ := hvc
  generalize mgOf f = g at *
  subst hf
  refine ACalls.frzO 0 ?_
  refine RSpecOK.wpL (prg hP) [] [(3, L_cnd o p per g n)] 0 .nil (hP ▸ Tryz.func78) rfl rfl rfl [(loopC Tryz.f78 3, L_cnd o p per g n)] (by kernel_rfl) ⟨cnd_loop hP o p per g n, trivial⟩ ?_
  rw [nf_cand]
  generalize canL o p per g n = L at *
  refine ⟨⟨rfl, ⟨rfl, rfl, rfl, rfl, rfl, fun i hi => absurd hi (Nat.not_lt_zero i)⟩, trivial⟩, hn, fun _ _ => rfl, _, rowsEqR _, fun _ _ => rfl, ?_⟩
  have hb : Nat.ble L.length L.length = true := Nat.ble_eq_true_of_le (Nat.le_refl _)
  constructor
  · simp [frzC, frzA, frz, hb]
  · rfl
end Go.Eng
namespace Go.Eng
open Go.Proofs Go.RowKit
variable {C : Ctx} [C.Loose]
set_option maxRecDepth 20000
theorem nf_rs1 (m : MG) (x : VT) (R : AV → List (Nat × AObj) → Prop) : wpFn te [] [] 0 Tryz.f80 [.agg [.str m.dev, .int .i64 m.seq, .int .i64 m.kind, .str m.v.o, .str m.v.p, .int .i64 m.v.per, .int .i64 m.v.day, .int .i64 m.v.st, .int .i64 m.v.pr, .str m.v.rep, .str m.d.o, .str m.d.p, .int .i64 m.d.per, .str m.d.dev, .int .i64 m.d.num], .ptr 0 0] [.cells [.str x.o, .str x.p, .int .i64 x.per, .int .i64 x.day, .int .i64 x.st, .int .i64 x.pr, .str x.rep] 52] R = (letI z0 := ([(0, .cells [.str (VT.o x), .str (VT.p x), .int .i64 (VT.per x), .int .i64 (VT.day x), .int .i64 (VT.st x), .int .i64 (VT.pr x), .str (VT.rep x)] 52)] : List (Nat × AObj)); condP (!decide (VT.st (MG.v m) = VT.st x)) (R (.bool true) z0) (condP (!decide (VT.pr (MG.v m) = VT.pr x)) (R (.bool true) z0) (R (.bool !decide (VT.rep (MG.v m) = VT.rep x)) z0))) := by kernel_rfl
theorem nf_rs2 (m : MG) (x : DT) (R : AV → List (Nat × AObj) → Prop) : wpFn te [(83, .det S_mark)] [] 0 Tryz.f82 [.agg [.str m.dev, .int .i64 m.seq, .int .i64 m.kind, .str m.v.o, .str m.v.p, .int .i64 m.v.per, .int .i64 m.v.day, .int .i64 m.v.st, .int .i64 m.v.pr, .str m.v.rep, .str m.d.o, .str m.d.p, .int .i64 m.d.per, .str m.d.dev, .int .i64 m.d.num], .ptr 0 0] [.cells [.str x.o, .str x.p, .int .i64 x.per, .str x.dev, .int .i64 x.num] 54] R = (True ∧ R (.bool (decide (MG.dev m = DT.dev x) && decide (MG.seq m = DT.num x))) [(0, .cells [.str (DT.o x), .str (DT.p x), .int .i64 (DT.per x), .str (DT.dev x), .int .i64 (DT.num x)] 54)]) := by kernel_rfl
theorem nf_ixs1 (x : VT) (g : Nat → MG) (n : Nat) (R : AV → List (Nat × AObj) → Prop) : wpFn te [(80, .det S_rs1)] [(2, L_ixs1 x g n)] 0 Tryz.f81 [.view 15 n (mgRow g), .func 80 [.ptr 0 0]] [.cells [.str x.o, .str x.p, .int .i64 x.per, .int .i64 x.day, .int .i64 x.st, .int .i64 x.pr, .str x.rep] 52] R = (letI z0 := ([(0, .cells [.str (VT.o x), .str (VT.p x), .int .i64 (VT.per x), .int .i64 (VT.day x), .int .i64 (VT.st x), .int .i64 (VT.pr x), .str (VT.rep x)] 52)] : List (Nat × AObj)); some (St.mk [(0, .view 15 n (mgRow g)), (1, .func 80 [.ptr 0 0]), (7, .int .i64 (↑n : Int)), (8, .int .i64 0)] z0 1 []) = some (St.mk [(0, .view 15 n (mgRow g)), (1, .func 80 [.ptr 0 0]), (7, .int .i64 (↑n : Int)), (8, .int .i64 (↑0 : Int))] z0 1 []) ∧ n ≤ 1000000 ∧ condP (decide (fstB (fun (i : Nat) => difF x (g i)) n < n)) (R (.int .i64 (↑(fstB (fun (i : Nat) => difF x (g i)) n) : Int)) z0) (R (.int .i64 (-1 : Int)) z0)) := by kernel_rfl
theorem nf_ixs1_round (x : VT) (g : Nat → MG) (n k : Nat) (P : Nat → Prop) (R : Exit → St → Prop) : roundP ⟨te, [(80, .det S_rs1)], [], 1, 19, 0⟩ (loopB Tryz.f81 2) [0, 1, 7, 8] [] [4] (S_ixs1 x g n) P R (S_ixs1 x g n k) = (letI z1 := (g (Int.toNat (↑k : Int))); letI z0 := ([(0, .cells [.str (VT.o x), .str (VT.p x), .int .i64 (VT.per x), .int .i64 (VT.day x), .int .i64 (VT.st x), .int .i64 (VT.pr x), .str (VT.rep x)] 52)] : List (Nat × AObj)); condP (decide ((↑k : Int) < (↑n : Int))) (((0 : Int) ≤ (↑k : Int) ∧ (↑k : Int) < (↑n : Int) ∧ 15 = 15) ∧ 52 = 52 ∧ condP (difF (VT.mk (VT.o x) (VT.p x) (VT.per x) (VT.day x) (VT.st x) (VT.pr x) (VT.rep x)) (MG.mk (MG.dev z1) (MG.seq z1) (MG.kind z1) (VT.mk (VT.o (MG.v z1)) (VT.p (MG.v z1)) (VT.per (MG.v z1)) (VT.day (MG.v z1)) (VT.st (MG.v z1)) (VT.pr (MG.v z1)) (VT.rep (MG.v z1))) (DT.mk (DT.o (MG.d z1)) (DT.p (MG.d z1)) (DT.per (MG.d z1)) (DT.dev (MG.d z1)) (DT.num (MG.d z1))))) (R .ret (St.mk [(4, .int .i64 (↑k : Int))] z0 1 [])) (inR .i64 ((↑k : Int) + (1 : Int)) ∧ ∃ (i' : Nat), some (St.mk [(0, .view 15 n (mgRow g)), (1, .func 80 [.ptr 0 0]), (7, .int .i64 (↑n : Int)), (8, .int .i64 ((↑k : Int) + (1 : Int)))] z0 1 []) = some (St.mk [(0, .view 15 n (mgRow g)), (1, .func 80 [.ptr 0 0]), (7, .int .i64 (↑n : Int)), (8, .int .i64 (↑i' : Int))] z0 1 []) ∧ P i')) (R (.exit 0) (St.mk [] z0 1 []))) := by kernel_rfl
theorem nf_ixs2 (x : DT) (g : Nat → MG) (n : Nat) (R : AV → List (Nat × AObj) → Prop) : wpFn te [(82, .det S_rs2)] [(2, L_ixs2 x g n)] 0 Tryz.f81 [.view 15 n (mgRow g), .func 82 [.ptr 0 0]] [.cells [.str x.o, .str x.p, .int .i64 x.per, .str x.dev, .int .i64 x.num] 54] R = (letI z0 := ([(0, .cells [.str (DT.o x), .str (DT.p x), .int .i64 (DT.per x), .str (DT.dev x), .int .i64 (DT.num x)] 54)] : List (Nat × AObj)); some (St.mk [(0, .view 15 n (mgRow g)), (1, .func 82 [.ptr 0 0]), (7, .int .i64 (↑n : Int)), (8, .int .i64 0)] z0 1 []) = some (St.mk [(0, .view 15 n (mgRow g)), (1, .func 82 [.ptr 0 0]), (7, .int .i64 (↑n : Int)), (8, .int .i64 (↑0 : Int))] z0 1 []) ∧ n ≤ 1000000 ∧ condP (decide (fstB (fun (i : Nat) => namF x (g i)) n < n)) (R (.int .i64 (↑(fstB (fun (i : Nat) => namF x (g i)) n) : Int)) z0) (R (.int .i64 (-1 : Int)) z0)) := by kernel_rfl
theorem nf_ixs2_round (x : DT) (g : Nat → MG) (n k : Nat) (P : Nat → Prop) (R : Exit → St → Prop) : roundP ⟨te, [(82, .det S_rs2)], [], 1, 19, 0⟩ (loopB Tryz.f81 2) [0, 1, 7, 8] [] [4] (S_ixs2 x g n) P R (S_ixs2 x g n k) = (letI z1 := ([(0, .cells [.str (DT.o x), .str (DT.p x), .int .i64 (DT.per x), .str (DT.dev x), .int .i64 (DT.num x)] 54)] : List (Nat × AObj)); letI z0 := (g (Int.toNat (↑k : Int))); condP (decide ((↑k : Int) < (↑n : Int))) (((0 : Int) ≤ (↑k : Int) ∧ (↑k : Int) < (↑n : Int) ∧ 15 = 15) ∧ 54 = 54 ∧ condP (namF (DT.mk (DT.o x) (DT.p x) (DT.per x) (DT.dev x) (DT.num x)) (MG.mk (MG.dev z0) (MG.seq z0) (MG.kind z0) (VT.mk (VT.o (MG.v z0)) (VT.p (MG.v z0)) (VT.per (MG.v z0)) (VT.day (MG.v z0)) (VT.st (MG.v z0)) (VT.pr (MG.v z0)) (VT.rep (MG.v z0))) (DT.mk (DT.o (MG.d z0)) (DT.p (MG.d z0)) (DT.per (MG.d z0)) (DT.dev (MG.d z0)) (DT.num (MG.d z0))))) (R .ret (St.mk [(4, .int .i64 (↑k : Int))] z1 1 [])) (inR .i64 ((↑k : Int) + (1 : Int)) ∧ ∃ (i' : Nat), some (St.mk [(0, .view 15 n (mgRow g)), (1, .func 82 [.ptr 0 0]), (7, .int .i64 (↑n : Int)), (8, .int .i64 ((↑k : Int) + (1 : Int)))] z1 1 []) = some (St.mk [(0, .view 15 n (mgRow g)), (1, .func 82 [.ptr 0 0]), (7, .int .i64 (↑n : Int)), (8, .int .i64 (↑i' : Int))] z1 1 []) ∧ P i')) (R (.exit 0) (St.mk [] z1 1 []))) := by kernel_rfl
theorem nf_cf1 (x : VT) (g : Nat → MG) (n : Nat) (R : AV → List (Nat × AObj) → Prop) : wpFn te [(81, .det S_ix1)] [] 0 Tryz.f79 [.view 15 n (mgRow g), .func 80 [.ptr 0 0]] [.cells [.str x.o, .str x.p, .int .i64 x.per, .int .i64 x.day, .int .i64 x.st, .int .i64 x.pr, .str x.rep] 52] R = ((52 = 52 ∧ n ≤ 1000000 ∧ mgRow g = mgRow (mgOf (mgRow g))) ∧ R (.bool (decide ((0 : Int) ≤ ixB (fun (i : Nat) => difF (VT.mk (VT.o x) (VT.p x) (VT.per x) (VT.day x) (VT.st x) (VT.pr x) (VT.rep x)) (mgOf (mgRow g) i)) n))) [(0, .cells [.str (VT.o x), .str (VT.p x), .int .i64 (VT.per x), .int .i64 (VT.day x), .int .i64 (VT.st x), .int .i64 (VT.pr x), .str (VT.rep x)] 52)]) := by kernel_rfl
theorem rs1_ok (hP : C.P = Tryz.prog) : SpecOK C 80 S_rs1 := by
  have _ : C.Loose := inferInstance
  rintro args objs U Os vc h hvc
  unfold S_rs1 at h
  split at h <;> simp only [Option.some.injEq, Prod.mk.injEq, reduceCtorEq] at h
  rename_i dev seq kind o p per day st pr rep o' p' per' dev' num xo xp xper xday xst xpr xrep t
  obtain ⟨rfl, rfl, rfl⟩ := h
  have hvc : t = _ := hvc
  subst hvc
  have hn := nf_rs1 ⟨dev, seq, kind, ⟨o, p, per, day, st, pr, rep⟩, ⟨o', p', per', dev', num⟩⟩ ⟨xo, xp, xper, xday, xst, xpr, xrep⟩
  dsimp only at hn
  refine SpecOK.wp0 (prg hP) [] 0 .nil (hP ▸ Tryz.func80) rfl rfl rfl ?_
  rw [hn]
  unfold difF
  exact condP_ndec (fun q => by rw [decide_eq_false q]; exact ⟨rfl, rfl⟩) (fun q1 => condP_ndec (fun q => by rw [decide_eq_true q1, decide_eq_false q]; exact ⟨rfl, rfl⟩) (fun q2 => by rw [decide_eq_true q1, decide_eq_true q2]; exact ⟨rfl, rfl⟩))
theorem ixs1_loop (hP : C.P = Tryz.prog) (x : VT) (g : Nat → MG) (n : Nat) : LoopOK C 1 19 (loopC Tryz.f81 2) (L_ixs1 x g n) := by
  rintro st Q ⟨h0, hn, hQ⟩
  have hR := condP_elim hQ
  refine LoopOK.mk (prg hP) [(80, .det S_rs1)] 0 (.cons (rs1_ok hP) .nil) [0, 1, 7, 8] [] [4] (S_ixs1 x g n) (fun k => k ≤ n ∧ fstB (fun i => difF x (g i)) k = k) (fun k => n - k) 0 ⟨Nat.zero_le _, rfl⟩ h0 (fun k hk => ?_)
  obtain ⟨hkn, hok⟩ := hk
  rw [nf_ixs1_round, Int.toNat_natCast]
  refine condP_dec (fun h1 => ?_) (fun h1 => ?_)
  · refine ⟨⟨by omega, by omega, rfl⟩, rfl, condP_intro (fun h2 => ?_) (fun h2 => ⟨by simp only [inR]; omega, k + 1, rfl, ⟨by omega, fstB_not hok h2⟩, by omega⟩)⟩
    have e := fstB_at hok h2 n (by omega)
    have := hR.1 (by rw [e, decide_eq_true]; omega)
    rw [e] at this
    exact this
  · have : k = n := by omega
    subst this
    exact hR.2 (by rw [hok, decide_eq_false]; omega)
theorem ix1_ok (hP : C.P = Tryz.prog) : SpecOK C 81 S_ix1 := by
  rintro args objs U Os vc h hvc
  unfold S_ix1 at h
  split at h <;> simp only [Option.some.injEq, Prod.mk.injEq, reduceCtorEq] at h
  rename_i n f xo xp xper xday xst xpr xrep t
  obtain ⟨rfl, rfl, rfl⟩ := h
  obtain ⟨rfl, hn, hf⟩ := hvc
  generalize mgOf f = g at *
  subst hf
  have hnf := fun R => nf_ixs1 ⟨xo, xp, xper, xday, xst, xpr, xrep⟩ g n R
  dsimp only at hnf
  refine SpecOK.wpL (prg hP) [(80, .det S_rs1)] [(2, L_ixs1 ⟨xo, xp, xper, xday, xst, xpr, xrep⟩ g n)] 0 (.cons (rs1_ok hP) .nil) (hP ▸ Tryz.func81) rfl rfl rfl [(loopC Tryz.f81 2, L_ixs1 ⟨xo, xp, xper, xday, xst, xpr, xrep⟩ g n)] (by kernel_rfl) ⟨ixs1_loop hP _ g n, trivial⟩ ?_
  rw [hnf]
  unfold ixB
  refine ⟨rfl, hn, condP_dec (fun h => ?_) (fun h => ?_)⟩
  · rw [decide_eq_true h]; exact ⟨rfl, rfl⟩
  · rw [decide_eq_false h]; exact ⟨rfl, rfl⟩
theorem rs2_ok (hP : C.P = Tryz.prog) : SpecOK C 82 S_rs2 := by
  rintro args objs U Os vc h hvc
  unfold S_rs2 at h
  split at h <;> simp only [Option.some.injEq, Prod.mk.injEq, reduceCtorEq] at h
  rename_i dev seq kind o p per day st pr rep o' p' per' dev' num xo xp xper xdev xnum t
  obtain ⟨rfl, rfl, rfl⟩ := h
  have hvc : t = _ := hvc
  subst hvc
  have hn := nf_rs2 ⟨dev, seq, kind, ⟨o, p, per, day, st, pr, rep⟩, ⟨o', p', per', dev', num⟩⟩ ⟨xo, xp, xper, xdev, xnum⟩
  dsimp only at hn
  refine SpecOK.wp0 (prg hP) [(83, .det S_mark)] 0 (.cons (mark_ok hP) .nil) (hP ▸ Tryz.func82) rfl rfl rfl ?_
  rw [hn]
  exact ⟨trivial, rfl, rfl⟩
theorem ixs2_loop (hP : C.P = Tryz.prog) (x : DT) (g : Nat → MG) (n : Nat) : LoopOK C 1 19 (loopC Tryz.f81 2) (L_ixs2 x g n) := by
  rintro st Q ⟨h0, hn, hQ⟩
  have hR := condP_elim hQ
  refine LoopOK.mk (prg hP) [(82, .det S_rs2)] 0 (.cons (rs2_ok hP) .nil) [0, 1, 7, 8] [] [4] (S_ixs2 x g n) (fun k => k ≤ n ∧ fstB (fun i => namF x (g i)) k = k) (fun k => n - k) 0 ⟨Nat.zero_le _, rfl⟩ h0 (fun k hk => ?_)
  obtain ⟨hkn, hok⟩ := hk
  rw [nf_ixs2_round, Int.toNat_natCast]
  refine condP_dec (fun h1 => ?_) (fun h1 => ?_)
  · refine ⟨⟨by omega, by omega, rfl⟩, rfl, condP_intro (fun h2 => ?_) (fun h2 => ⟨by simp only [inR]; omega, k + 1, rfl, ⟨by omega, fstB_not hok h2⟩, by omega⟩)⟩
    have e := fstB_at hok h2 n (by omega)
    have := hR.1 (by rw [e, decide_eq_true]; omega)
    rw [e] at this
    exact this
  · have : k = n := by omega
    subst this
    exact hR.2 (by rw [hok, decide_eq_false]; omega)
theorem ix2_ok (hP : C.P = Tryz.prog) : SpecOK C 81 S_ix2 := by
  rintro args objs U Os vc h hvc
  unfold S_ix2 at h
  split at h <;> simp only [Option.some.injEq, Prod.mk.injEq, reduceCtorEq] at h
  rename_i n f xo xp xper xdev xnum t
  obtain ⟨rfl, rfl, rfl⟩ := h
  obtain ⟨rfl, hn, hf⟩ := hvc
  generalize mgOf f = g at *
  subst hf
  have hnf := fun R => nf_ixs2 ⟨xo, xp, xper, xdev, xnum⟩ g n R
  dsimp only at hnf
  refine SpecOK.wpL (prg hP) [(82, .det S_rs2)] [(2, L_ixs2 ⟨xo, xp, xper, xdev, xnum⟩ g n)] 0 (.cons (rs2_ok hP) .nil) (hP ▸ Tryz.func81) rfl rfl rfl [(loopC Tryz.f81 2, L_ixs2 ⟨xo, xp, xper, xdev, xnum⟩ g n)] (by kernel_rfl) ⟨ixs2_loop hP _ g n, trivial⟩ ?_
  rw [hnf]
  unfold ixB
  refine ⟨rfl, hn, condP_dec (fun h => ?_) (fun h => ?_)⟩
  · rw [decide_eq_true h]; exact ⟨rfl, rfl⟩
  · rw [decide_eq_false h]; exact ⟨rfl, rfl⟩
theorem cf1_ok (hP : C.P = Tryz.prog) : SpecOK C 79 S_cf1 := by
  rintro args objs U Os vc h hvc
  unfold S_cf1 at h
  split at h <;> simp only [Option.some.injEq, Prod.mk.injEq, reduceCtorEq] at h
  rename_i n f xo xp xper xday xst xpr xrep t
  obtain ⟨rfl, rfl, rfl⟩ := h
  obtain ⟨rfl, hn, hf⟩ := hvc
  generalize mgOf f = g at *
  subst hf
  have hnf := fun R => nf_cf1 ⟨xo, xp, xper, xday, xst, xpr, xrep⟩ g n R
  dsimp only at hnf
  refine SpecOK.wp0 (prg hP) [(81, .det S_ix1)] 0 (.cons (ix1_ok hP) .nil) (hP ▸ Tryz.func79) rfl rfl rfl ?_
  rw [hnf]
  exact ⟨⟨rfl, hn, rfl⟩, rfl, rfl⟩
end Go.Eng
namespace Go.Eng
open Go.Proofs Go.RowKit
variable {C : Ctx} [C.Loose]
set_option maxRecDepth 20000
theorem nf_resolve (g : Nat → MG) (n : Nat) (o p : List UInt8) (per : Int) (R : AV → List (Nat × AObj) → Prop) : wpFn te [(77, .det S_right), (78, .det S_cand), (79, .det S_cf1)] [(10, L_rl o p per (canL o p per (atM (rightL g n)) (rightL g n).length) (rightL g n))] 0 Tryz.f41 [.view 15 n (mgRow g), .str o, .str p, .int .i64 per] [] R = (letI z8 := atM (rightL g n); letI z7 := List.length (rightL g n); letI z6 := rightL (mgOf (mgRow g)) n; letI z4 := ([.str [], .str [], .int .i64 0, .int .i64 0, .int .i64 0, .int .i64 0, .str []] : List AV); letI z1 := canL o p per z8 z7; letI z5 := Prod.fst (dcF o p per z1 z8 0); letI z3 := Prod.fst (dcF o p per z1 z8 z7); letI z0 := canL o p per (mgOf (mgRow (atM z6))) (List.length z6); letI z2 := (MG.v (atM z0 (Int.toNat (0 : Int)))); (n ≤ 100000 ∧ mgRow g = mgRow (mgOf (mgRow g)) ∧ ∀ (i : Nat), i < n → MG.Sm (mgOf (mgRow g) i)) ∧ (List.length z6 ≤ 1000000 ∧ mgRow (atM z6) = mgRow (mgOf (mgRow (atM z6)))) ∧ condP (decide ((↑(List.length z0) : Int) = (0 : Int))) ((True ∧ True) ∧ R (.tuple [.agg z4, .int .i64 0]) []) (((0 : Int) ≤ (0 : Int) ∧ (0 : Int) < (↑(List.length z0) : Int) ∧ 15 = 15) ∧ (52 = 52 ∧ List.length z0 ≤ 1000000 ∧ mgRow (atM z0) = mgRow (mgOf (mgRow (atM z0)))) ∧ condP (!decide ((0 : Int) ≤ ixB (fun (i : Nat) => difF (VT.mk (VT.o z2) (VT.p z2) (VT.per z2) (VT.day z2) (VT.st z2) (VT.pr z2) (VT.rep z2)) (mgOf (mgRow (atM z0)) i)) (List.length z0))) ((True ∧ True) ∧ R (.tuple [.agg [.str (VT.o z2), .str (VT.p z2), .int .i64 (VT.per z2), .int .i64 (VT.day z2), .int .i64 (VT.st z2), .int .i64 (VT.pr z2), .str (VT.rep z2)], .int .i64 1]) []) (some (St.mk [(1, .str o), (2, .str p), (3, .int .i64 per), (8, .ptr 0 0), (11, .view 15 (List.length z0) (mgRow (atM z0))), (13, .ptr 1 0), (14, .int .i64 (-1 : Int)), (40, .view 15 (List.length z6) (mgRow (atM z6))), (41, .int .i64 (↑(List.length z6) : Int)), (42, .int .i64 0)] [(0, .cells z4 52), (1, .cells z4 52)] 2 []) = some (St.mk [(1, .str o), (2, .str p), (3, .int .i64 per), (8, .ptr 0 0), (11, .view 15 (List.length z1) (mgRow (atM z1))), (13, .ptr 1 0), (14, .int .i64 (Prod.snd (dcF o p per z1 z8 0))), (40, .view 15 z7 (mgRow z8)), (41, .int .i64 (↑z7 : Int)), (42, .int .i64 (↑0 : Int))] [(0, .cells z4 52), (1, .cells [.str (VT.o z5), .str (VT.p z5), .int .i64 (VT.per z5), .int .i64 (VT.day z5), .int .i64 (VT.st z5), .int .i64 (VT.pr z5), .str (VT.rep z5)] 52)] 2 []) ∧ List.length (rightL g n) ≤ 1000000 ∧ List.length z1 ≤ 1000000 ∧ condP (decide (Prod.snd (dcF o p per z1 z8 z7) < (0 : Int))) ((True ∧ True) ∧ R (.tuple [.agg z4, .int .i64 2]) []) ((True ∧ True) ∧ R (.tuple [.agg [.str (VT.o z3), .str (VT.p z3), .int .i64 (VT.per z3), .int .i64 (VT.day z3), .int .i64 (VT.st z3), .int .i64 (VT.pr z3), .str (VT.rep z3)], .int .i64 1]) [])))) := by kernel_rfl
theorem nf_rl_round (o p : List UInt8) (per : Int) (C R : List MG) (k : Nat) (P : Nat → Prop) (Q : Exit → St → Prop) : roundP ⟨te, [(81, .det S_ix2)], [], 0, 92, 0⟩ (loopB Tryz.f41 10) [1, 2, 3, 8, 11, 13, 14, 40, 41, 42] [8, 13, 14] [] (S_rl o p per C R) P Q (S_rl o p per C R k) = (letI z7 := (↑(List.length R) : Int); letI z6 := dcF o p per C (atM R) k; letI z5 := ([.str [], .str [], .int .i64 0, .int .i64 0, .int .i64 0, .int .i64 0, .str []] : List AV); letI z4 := (atM R (Int.toNat (↑k : Int))); letI z3 := ([(0, .cells z5 52), (1, .cells [.str (VT.o (Prod.fst z6)), .str (VT.p (Prod.fst z6)), .int .i64 (VT.per (Prod.fst z6)), .int .i64 (VT.day (Prod.fst z6)), .int .i64 (VT.st (Prod.fst z6)), .int .i64 (VT.pr (Prod.fst z6)), .str (VT.rep (Prod.fst z6))] 52)] : List (Nat × AObj)); letI z1 := (DT.mk (DT.o (MG.d z4)) (DT.p (MG.d z4)) (DT.per (MG.d z4)) (DT.dev (MG.d z4)) (DT.num (MG.d z4))); letI z2 := (MG.v (atM C (Int.toNat (ixB (fun (i : Nat) => namF z1 (mgOf (mgRow (atM C)) i)) (List.length C))))); letI z0 := (inR .i64 ((↑k : Int) + (1 : Int)) ∧ ∃ (i' : Nat), some (St.mk [(1, .str o), (2, .str p), (3, .int .i64 per), (8, .ptr 0 0), (11, .view 15 (List.length C) (mgRow (atM C))), (13, .ptr 1 0), (14, .int .i64 (Prod.snd z6)), (40, .view 15 (List.length R) (mgRow (atM R))), (41, .int .i64 z7), (42, .int .i64 ((↑k : Int) + (1 : Int)))] z3 2 []) = some (St.mk [(1, .str o), (2, .str p), (3, .int .i64 per), (8, .ptr 0 0), (11, .view 15 (List.length C) (mgRow (atM C))), (13, .ptr 1 0), (14, .int .i64 (Prod.snd (dcF o p per C (atM R) i'))), (40, .view 15 (List.length R) (mgRow (atM R))), (41, .int .i64 z7), (42, .int .i64 (↑i' : Int))] [(0, .cells z5 52), (1, .cells [.str (VT.o (Prod.fst (dcF o p per C (atM R) i'))), .str (VT.p (Prod.fst (dcF o p per C (atM R) i'))), .int .i64 (VT.per (Prod.fst (dcF o p per C (atM R) i'))), .int .i64 (VT.day (Prod.fst (dcF o p per C (atM R) i'))), .int .i64 (VT.st (Prod.fst (dcF o p per C (atM R) i'))), .int .i64 (VT.pr (Prod.fst (dcF o p per C (atM R) i'))), .str (VT.rep (Prod.fst (dcF o p per C (atM R) i')))] 52)] 2 []) ∧ P i'); condP (decide ((↑k : Int) < z7)) (((0 : Int) ≤ (↑k : Int) ∧ (↑k : Int) < z7 ∧ 15 = 15) ∧ condP (!decide (MG.kind z4 = (2 : Int))) z0 (condP (!decide (DT.o (MG.d z4) = o)) z0 (condP (!decide (DT.p (MG.d z4) = p)) z0 (condP (!decide (DT.per (MG.d z4) = per)) z0 (condP (decide (MG.seq z4 < Prod.snd z6)) z0 ((54 = 54 ∧ List.length C ≤ 1000000 ∧ mgRow (atM C) = mgRow (mgOf (mgRow (atM C)))) ∧ condP (decide ((0 : Int) ≤ ixB (fun (i : Nat) => namF z1 (mgOf (mgRow (atM C)) i)) (List.length C))) (((0 : Int) ≤ ixB (fun (i : Nat) => namF z1 (mgOf (mgRow (atM C)) i)) (List.length C) ∧ ixB (fun (i : Nat) => namF z1 (mgOf (mgRow (atM C)) i)) (List.length C) < (↑(List.length C) : Int) ∧ 15 = 15) ∧ inR .i64 ((↑k : Int) + (1 : Int)) ∧ ∃ (i' : Nat), some (St.mk [(1, .str o), (2, .str p), (3, .int .i64 per), (8, .ptr 0 0), (11, .view 15 (List.length C) (mgRow (atM C))), (13, .ptr 1 0), (14, .int .i64 (MG.seq z4)), (40, .view 15 (List.length R) (mgRow (atM R))), (41, .int .i64 z7), (42, .int .i64 ((↑k : Int) + (1 : Int)))] [(0, .cells z5 52), (1, .cells [.str (VT.o z2), .str (VT.p z2), .int .i64 (VT.per z2), .int .i64 (VT.day z2), .int .i64 (VT.st z2), .int .i64 (VT.pr z2), .str (VT.rep z2)] 52)] 2 []) = some (St.mk [(1, .str o), (2, .str p), (3, .int .i64 per), (8, .ptr 0 0), (11, .view 15 (List.length C) (mgRow (atM C))), (13, .ptr 1 0), (14, .int .i64 (Prod.snd (dcF o p per C (atM R) i'))), (40, .view 15 (List.length R) (mgRow (atM R))), (41, .int .i64 z7), (42, .int .i64 (↑i' : Int))] [(0, .cells z5 52), (1, .cells [.str (VT.o (Prod.fst (dcF o p per C (atM R) i'))), .str (VT.p (Prod.fst (dcF o p per C (atM R) i'))), .int .i64 (VT.per (Prod.fst (dcF o p per C (atM R) i'))), .int .i64 (VT.day (Prod.fst (dcF o p per C (atM R) i'))), .int .i64 (VT.st (Prod.fst (dcF o p per C (atM R) i'))), .int .i64 (VT.pr (Prod.fst (dcF o p per C (atM R) i'))), .str (VT.rep (Prod.fst (dcF o p per C (atM R) i')))] 52)] 2 []) ∧ P i') z0)))))) (Q (.exit 0) (St.mk [(8, .ptr 0 0), (13, .ptr 1 0), (14, .int .i64 (Prod.snd z6))] z3 2 []))) := by kernel_rfl
theorem ixB_pos {q : Nat → Bool} {n : Nat} : (0 ≤ ixB q n ↔ fstB q n < n) ∧ (fstB q n < n → ixB q n = (fstB q n : Int)) := by
  unfold ixB
  by_cases h : fstB q n < n
  · rw [decide_eq_true h]
    refine ⟨⟨fun _ => h, fun _ => ?_⟩, fun _ => rfl⟩
    show (0 : Int) ≤ (fstB q n : Int)
    omega
  · rw [decide_eq_false h]
    refine ⟨⟨fun k => ?_, fun k => absurd k h⟩, fun k => absurd k h⟩
    have k : (0 : Int) ≤ -1 := k
    omega
theorem rl_loop (hP : C.P = Tryz.prog) (o p : List UInt8) (per : Int) (L R : List MG) : LoopOK C 0 92 (loopC Tryz.f41 10) (L_rl o p per L R) := by
  rintro st Q ⟨h0, hR, hC, hQ⟩
  refine LoopOK.mk (prg hP) [(81, .det S_ix2)] 0 (.cons (ix2_ok hP) .nil) [1, 2, 3, 8, 11, 13, 14, 40, 41, 42] [8, 13, 14] [] (S_rl o p per L R) (fun k => k ≤ R.length) (fun k => R.length - k) 0 (Nat.zero_le _) h0 (fun k hk => ?_)
  rw [nf_rl_round, Int.toNat_natCast]
  have mk : ∀ r : VT × Int, dcF o p per L (atM R) (k + 1) = r → some (St.mk [(1, .str o), (2, .str p), (3, .int .i64 per), (8, .ptr 0 0), (11, .view 15 L.length (mgRow (atM L))), (13, .ptr 1 0), (14, .int .i64 r.2), (40, .view 15 R.length (mgRow (atM R))), (41, .int .i64 (R.length : Int)), (42, .int .i64 ((k : Int) + 1))] [(0, .cells [.str [], .str [], .int .i64 0, .int .i64 0, .int .i64 0, .int .i64 0, .str []] 52), (1, .cells [.str r.1.o, .str r.1.p, .int .i64 r.1.per, .int .i64 r.1.day, .int .i64 r.1.st, .int .i64 r.1.pr, .str r.1.rep] 52)] 2 []) = some (S_rl o p per L R (k + 1)) := fun r e => by
    unfold S_rl; rw [e]; rfl
  have no : k < R.length → (decOK o p per (dcF o p per L (atM R) k).2 (atM R k) && decide (fstB (fun i => namF (atM R k).d (atM L i)) L.length < L.length)) = false → inR .i64 ((k : Int) + 1) ∧ ∃ i' : Nat, some (St.mk [(1, .str o), (2, .str p), (3, .int .i64 per), (8, .ptr 0 0), (11, .view 15 L.length (mgRow (atM L))), (13, .ptr 1 0), (14, .int .i64 (dcF o p per L (atM R) k).2), (40, .view 15 R.length (mgRow (atM R))), (41, .int .i64 (R.length : Int)), (42, .int .i64 ((k : Int) + 1))] [(0, .cells [.str [], .str [], .int .i64 0, .int .i64 0, .int .i64 0, .int .i64 0, .str []] 52), (1, .cells [.str (dcF o p per L (atM R) k).1.o, .str (dcF o p per L (atM R) k).1.p, .int .i64 (dcF o p per L (atM R) k).1.per, .int .i64 (dcF o p per L (atM R) k).1.day, .int .i64 (dcF o p per L (atM R) k).1.st, .int .i64 (dcF o p per L (atM R) k).1.pr, .str (dcF o p per L (atM R) k).1.rep] 52)] 2 []) = some (S_rl o p per L R i') ∧ (i' ≤ R.length ∧ R.length - i' < R.length - k) := fun hk' h =>
    ⟨by simp only [inR]; omega, k + 1, mk _ (by rw [dcF, h]; rfl), by omega, by omega⟩
  refine condP_dec (fun h1 => ⟨⟨by omega, by omega, rfl⟩, condP_ndec (fun q => no (by omega) (by unfold decOK; rw [decide_eq_false q]; rfl)) (fun q1 => condP_ndec (fun q => no (by omega) (by unfold decOK; rw [decide_eq_true q1, decide_eq_false q]; rfl)) (fun q2 => condP_ndec (fun q => no (by omega) (by unfold decOK; rw [decide_eq_true q1, decide_eq_true q2, decide_eq_false q]; rfl)) (fun q3 => condP_ndec (fun q => no (by omega) (by unfold decOK; rw [decide_eq_true q1, decide_eq_true q2, decide_eq_true q3, decide_eq_false q]; rfl))
    (fun q4 => condP_dec (fun q => no (by omega) (by unfold decOK; rw [decide_eq_true q1, decide_eq_true q2, decide_eq_true q3, decide_eq_true q4, decide_eq_true q]; rfl)) (fun q5 => ⟨⟨rfl, hC, rfl⟩, condP_dec (fun q => ?_) (fun q => ?_)⟩)))))⟩) (fun h1 => ?_)
  · have q : 0 ≤ ixB (fun i => namF (atM R k).d (atM L i)) L.length := q
    obtain ⟨x1, x2⟩ := ixB_pos (q := fun i => namF (atM R k).d (atM L i)) (n := L.length)
    have hlt := x1.1 q
    have hx := x2 hlt
    have hd : dcF o p per L (atM R) (k + 1) = ((atM L (ixB (fun i => namF (atM R k).d (atM L i)) L.length).toNat).v, (atM R k).seq) := by
      rw [dcF, decide_eq_true hlt, hx, Int.toNat_natCast]
      unfold decOK
      rw [decide_eq_true q1, decide_eq_true q2, decide_eq_true q3, decide_eq_true q4, decide_eq_false q5]; rfl
    refine ⟨⟨q, ?_, rfl⟩, by simp only [inR]; omega, k + 1, mk _ hd, by omega, by omega⟩
    show ixB (fun i => namF (atM R k).d (atM L i)) L.length < _
    omega
  · have q : ¬ 0 ≤ ixB (fun i => namF (atM R k).d (atM L i)) L.length := q
    obtain ⟨x1, _⟩ := ixB_pos (q := fun i => namF (atM R k).d (atM L i)) (n := L.length)
    exact no (by omega) (by rw [decide_eq_false (fun h => q (x1.2 h)), Bool.and_false])
  · have : k = R.length := by omega
    subst this
    exact hQ
theorem resolve_ok (hP : C.P = Tryz.prog) (hL : ∀ w, C.laid w → LaidW w) : SpecOK C 41 S_resolve := by
  rintro args objs U Os vc h hvc
  unfold S_resolve at h
  split at h <;> simp only [Option.some.injEq, Prod.mk.injEq, reduceCtorEq] at h
  rename_i n f o p per
  obtain ⟨rfl, rfl, rfl⟩ := h
  obtain ⟨hn, hf, hs⟩ := hvc
  generalize mgOf f = g at *
  subst hf
  refine SpecOK.wpL (prg hP) [(77, .det S_right), (78, .det S_cand), (79, .det S_cf1)] [(10, L_rl o p per (canL o p per (atM (rightL g n)) (rightL g n).length) (rightL g n))] 0 (.cons (right_ok hP hL) (.cons (cand_ok hP) (.cons (cf1_ok hP) .nil))) (hP ▸ Tryz.func41) rfl rfl rfl [(loopC Tryz.f41 10, L_rl o p per (canL o p per (atM (rightL g n)) (rightL g n).length) (rightL g n))] (by kernel_rfl) ⟨rl_loop hP o p per _ _, trivial⟩ ?_
  rw [nf_resolve]
  have hg : mgOf (mgRow g) = g := rfl
  have hgR : mgOf (mgRow (atM (rightL g n))) = atM (rightL g n) := rfl
  rw [hg, hgR]
  have hr : (rightL g n).length ≤ n := by
    have := List.length_filter_le (fun x => !decide (1 < numC (atM (mrgL g n noM 0)) (mk2 x) (mrgL g n noM 0).length)) (mrgL g n noM 0)
    have := mrgL_len g n noM 0
    unfold rightL; omega
  unfold resF
  have hc := canL_len o p per (atM (rightL g n)) (rightL g n).length
  generalize canL o p per (atM (rightL g n)) (rightL g n).length = L at *
  generalize rightL g n = R at *
  refine ⟨⟨hn, rfl, hs⟩, ⟨by omega, rfl⟩, condP_dec (fun q => ?_) (fun q => ⟨⟨by omega, by omega, rfl⟩, ⟨rfl, by omega, rfl⟩, condP_ndec (fun q2 => ?_) (fun q2 => ⟨rfl, by omega, by omega, condP_dec (fun q3 => ?_) (fun q3 => ?_)⟩)⟩)⟩
  · have e : resR o p per R L = (zeroVT, 0) := by unfold resR; rw [decide_eq_true (show L.length = 0 by omega)]; rfl
    rw [e]; exact ⟨⟨trivial, trivial⟩, rfl, rfl⟩
  · have q2 : ¬ 0 ≤ ixB (fun i => difF (atM L 0).v (atM L i)) L.length := q2
    have e : resR o p per R L = ((atM L 0).v, 1) := by unfold resR; rw [decide_eq_false (show ¬ L.length = 0 by omega), decide_eq_false q2]; rfl
    rw [e]; exact ⟨⟨trivial, trivial⟩, rfl, rfl⟩
  · have q2 : 0 ≤ ixB (fun i => difF (atM L 0).v (atM L i)) L.length := q2
    have e : resR o p per R L = (zeroVT, 2) := by unfold resR; rw [decide_eq_false (show ¬ L.length = 0 by omega), decide_eq_true q2, decide_eq_true q3]; rfl
    rw [e]; exact ⟨⟨trivial, trivial⟩, rfl, rfl⟩
  · have q2 : 0 ≤ ixB (fun i => difF (atM L 0).v (atM L i)) L.length := q2
    have e : resR o p per R L = ((dcF o p per L (atM R) R.length).1, 1) := by unfold resR; rw [decide_eq_false (show ¬ L.length = 0 by omega), decide_eq_true q2, decide_eq_false q3]; rfl
    rw [e]; exact ⟨⟨trivial, trivial⟩, rfl, rfl⟩
end Go.Eng
namespace Go.Eng
open Go.Proofs Go.RowKit
variable {C : Ctx} [C.Loose]
set_option maxRecDepth 20000
theorem nf_raw11 (g : Nat → MG) (n : Nat) (R : AV → List (Nat × AObj) → Prop) : wpFn te [] [(3, L_rw11 g (min n 12))] 0 Tryz.f32 [.view 15 n (mgRow g)] [] R = (letI z0 := (Int.toNat (min (↑n : Int) (12 : Int))); ((0 : Int) ≤ min (↑n : Int) (12 : Int) ∧ min (↑n : Int) (12 : Int) ≤ (↑n : Int)) ∧ (TEq [(3, .own 0 0), (10, .view 15 z0 (mgRow g)), (11, .int .i64 (↑z0 : Int)), (12, .int .i64 0)] [(3, .own 0 0), (10, .view 15 (min n 12) (mgRow g)), (11, .int .i64 (↑(min n 12) : Int)), (12, .int .i64 (↑0 : Int))] ∧ RowsEq [(0, .row 56 15 0 (fun (_x : Nat) => []) false)] [(0, .row 56 15 0 (mgRow (cutM g)) false)]) ∧ min n 12 ≤ 12 ∧ (∀ (i : Nat), i < min n 12 → true = true) ∧ ∃ (O' : List (Nat × AObj)), RowsEq [(0, .row 56 15 (min n 12) (mgRow (cutM g)) false)] O' ∧ R (.own 0 (min n 12)) O') := by kernel_rfl
theorem nf_rw11_round (g : Nat → MG) (n k : Nat) (P : Nat → Prop) (R : Exit → St → Prop) : roundP ⟨te, [], [], 0, 96, 0⟩ (loopB Tryz.f32 3) [3, 10, 11, 12] [3] [] (S_rw11 g n) P R (S_rw11 g n k) = (letI z0 := (g (Int.toNat (↑k : Int))); letI z7 := (↑(List.length (MG.dev z0)) : Int); letI z6 := (↑(List.length (DT.p (MG.d z0))) : Int); letI z5 := (↑(List.length (DT.o (MG.d z0))) : Int); letI z4 := (↑(List.length (VT.p (MG.v z0))) : Int); letI z3 := (↑(List.length (VT.o (MG.v z0))) : Int); letI z2 := (↑(List.length (DT.dev (MG.d z0))) : Int); letI z1 := (↑(List.length (VT.rep (MG.v z0))) : Int); condP (decide ((↑k : Int) < (↑n : Int))) (((0 : Int) ≤ (↑k : Int) ∧ (↑k : Int) < (↑n : Int) ∧ 15 = 15) ∧ ((0 : Int) ≤ min z7 (30 : Int) ∧ min z7 (30 : Int) ≤ z7) ∧ ((0 : Int) ≤ min z3 (30 : Int) ∧ min z3 (30 : Int) ≤ z3) ∧ ((0 : Int) ≤ min z4 (30 : Int) ∧ min z4 (30 : Int) ≤ z4) ∧ ((0 : Int) ≤ min z1 (30 : Int) ∧ min z1 (30 : Int) ≤ z1) ∧ ((0 : Int) ≤ min z5 (30 : Int) ∧ min z5 (30 : Int) ≤ z5) ∧ ((0 : Int) ≤ min z6 (30 : Int) ∧ min z6 (30 : Int) ≤ z6) ∧ ((0 : Int) ≤ min z2 (30 : Int) ∧ min z2 (30 : Int) ≤ z2) ∧ (15 ≤ 16777216 ∧ 15 = 15 ∧ 1 ≤ 9223372036854775807) ∧ ((1 ≤ 1 ∧ 15 = 15) ∧ k ≤ k ∧ 15 = 15 ∧ 56 = 56 ∧ 15 = 15 ∧ k + 1 ≤ 9223372036854775807 ∧ (k + 1) * TI.bytes shrt0 ≤ 140737488355328) ∧ inR .i64 ((↑k : Int) + (1 : Int)) ∧ ∃ (i' : Nat), (TEq [(3, .own 0 (k + 1)), (10, .view 15 n (mgRow g)), (11, .int .i64 (↑n : Int)), (12, .int .i64 ((↑k : Int) + (1 : Int)))] [(3, .own 0 i'), (10, .view 15 n (mgRow g)), (11, .int .i64 (↑n : Int)), (12, .int .i64 (↑i' : Int))] ∧ RowsEq [(0, .row 56 15 (k + 1) (apF k (mgRow (cutM g)) (chunkA (TI.sz shrt0) (.str (List.take (Int.toNat (min z7 (30 : Int))) (MG.dev z0)) :: .int .i64 (MG.seq z0) :: .int .i64 (MG.kind z0) :: .str (List.take (Int.toNat (min z3 (30 : Int))) (VT.o (MG.v z0))) :: .str (List.take (Int.toNat (min z4 (30 : Int))) (VT.p (MG.v z0))) :: .int .i64 (VT.per (MG.v z0)) :: .int .i64 (VT.day (MG.v z0)) :: .int .i64 (VT.st (MG.v z0)) :: .int .i64 (VT.pr (MG.v z0)) :: .str (List.take (Int.toNat (min z1 (30 : Int))) (VT.rep (MG.v z0))) :: .str (List.take (Int.toNat (min z5 (30 : Int))) (DT.o (MG.d z0))) :: .str (List.take (Int.toNat (min z6 (30 : Int))) (DT.p (MG.d z0))) :: .int .i64 (DT.per (MG.d z0)) :: .str (List.take (Int.toNat (min z2 (30 : Int))) (DT.dev (MG.d z0))) :: .int .i64 (DT.num (MG.d z0)) :: List.append [] shrt1))) false)] [(0, .row 56 15 i' (mgRow (cutM g)) false)]) ∧ P i') ((∀ (i : Nat), i < k → true = true) ∧ ∃ (O' : List (Nat × AObj)), RowsEq [(0, .row 56 15 k (mgRow (cutM g)) false)] O' ∧ R (.exit 0) (St.mk [(3, .own 0 k)] O' 1 []))) := by kernel_rfl
theorem nf_aw11 (R : AV → List (Nat × AObj) → Prop) : wpFn te [(41, .det S_resolveO)] [] 0 Tryz.f35 [] [] R = ((15 ≤ 16777216 ∧ 15 = 15 ∧ 1 ≤ 9223372036854775807) ∧ (∀ (i : Nat), i < 1 → nrefL (chunkA (TI.sz shrt0) (.str [(97 : UInt8)] :: .int .i64 1 :: .int .i64 1 :: .str [(111 : UInt8), 49] :: .str [(57 : UInt8), 54, 51, 56, 53, 48, 55, 52] :: .int .i64 5 :: .int .i64 160 :: .int .i64 1 :: .int .i64 100 :: .str [] :: .str [] :: .str [] :: .int .i64 0 :: .str [] :: .int .i64 0 :: List.append [] shrt1) i) = true) ∧ (1 = 1 ∧ 1 ≤ 100000 ∧ RM (chunkA (TI.sz shrt0) (.str [(97 : UInt8)] :: .int .i64 1 :: .int .i64 1 :: .str [(111 : UInt8), 49] :: .str [(57 : UInt8), 54, 51, 56, 53, 48, 55, 52] :: .int .i64 5 :: .int .i64 160 :: .int .i64 1 :: .int .i64 100 :: .str [] :: .str [] :: .str [] :: .int .i64 0 :: .str [] :: .int .i64 0 :: List.append [] shrt1)) 1) ∧ R (.bool true) []) := by kernel_rfl
theorem rw11_loop (hP : C.P = Tryz.prog) (g : Nat → MG) (n : Nat) : LoopOK C 0 96 (loopC Tryz.f32 3) (L_rw11 g n) := by
  have _ : C.Loose := inferInstance
  rintro st Q ⟨h0, hn, hQ⟩
  refine AWP.ownNil 3 56 15 ?_
  refine LoopOK.mk (prg hP) [] 0 .nil [3, 10, 11, 12] [3] [] (S_rw11 g n) (fun k => k ≤ n) (fun k => n - k) 0 (Nat.zero_le _) h0 (fun k hk => ?_) (fun i => ⟨fun _ _ => rfl, trivial⟩)
  rw [nf_rw11_round, Int.toNat_natCast, take_m, take_m, take_m, take_m, take_m, take_m, take_m]
  refine condP_dec (fun h1 => ⟨⟨by omega, by omega, rfl⟩, ⟨by omega, by omega⟩, ⟨by omega, by omega⟩, ⟨by omega, by omega⟩, ⟨by omega, by omega⟩, ⟨by omega, by omega⟩, ⟨by omega, by omega⟩, ⟨by omega, by omega⟩, ⟨by omega, rfl, by omega⟩, ⟨⟨Nat.le_refl _, rfl⟩, Nat.le_refl _, rfl, rfl, rfl, by omega, ?_⟩, by simp only [inR]; omega, k + 1, ⟨rfl, ⟨rfl, rfl, rfl, rfl, rfl, fun j hj => ?_⟩, trivial⟩, by omega, by omega⟩) (fun h1 => ⟨fun _ _ => rfl, _, rowsEqR _, ?_⟩)
  · show (k + 1) * 176 ≤ _
    omega
  · unfold apF
    by_cases h : j < k
    · rw [if_pos h]
    · have : j = k := by omega
      rw [if_neg h, this, Nat.sub_self]; rfl
  · have : k = n := by omega
    subst this
    exact hQ
theorem raw11_ok (hP : C.P = Tryz.prog) : SpecOK C 32 S_raw11 := by
  rintro args objs U Os vc h hvc
  unfold S_raw11 at h
  split at h <;> simp only [Option.some.injEq, Prod.mk.injEq, reduceCtorEq] at h
  rename_i n f
  obtain ⟨rfl, rfl, rfl⟩ := h
  have hf := hvc
  generalize mgOf f = g at *
  subst hf
  refine ACalls.frzO 0 ?_
  refine RSpecOK.wpL (prg hP) [] [(3, L_rw11 g (min n 12))] 0 .nil (hP ▸ Tryz.func32) rfl rfl rfl [(loopC Tryz.f32 3, L_rw11 g (min n 12))] (by kernel_rfl) ⟨rw11_loop hP g _, trivial⟩ ?_
  rw [nf_raw11]
  have hm : (min (n : Int) (12 : Int)).toNat = min n 12 := by omega
  rw [hm]
  refine ⟨⟨by omega, by omega⟩, ⟨rfl, ⟨rfl, rfl, rfl, rfl, rfl, fun i hi => absurd hi (Nat.not_lt_zero i)⟩, trivial⟩, by omega, fun _ _ => rfl, _, rowsEqR _, fun _ _ => rfl, ?_⟩
  have hb : Nat.ble (min n 12) (min n 12) = true := Nat.ble_eq_true_of_le (Nat.le_refl _)
  constructor
  · simp [frzC, frzA, frz, hb]
  · rfl
theorem raw11O_ok (hP : C.P = Tryz.prog) : SpecOK C 32 S_raw11O := by
  rintro args objs U Os vc h hvc
  unfold S_raw11O at h
  split at h <;> simp only [Option.some.injEq, Prod.mk.injEq, reduceCtorEq] at h
  rename_i n t m f fr
  obtain ⟨rfl, rfl, rfl⟩ := h
  obtain ⟨rfl, ⟨hf⟩⟩ := hvc
  refine ACalls.rowEq 0 (f' := mgRow (mgOf f)) rfl (fun i hi => (hf i hi).symm) ?_
  have hb : Nat.ble n n = true := Nat.ble_eq_true_of_le (Nat.le_refl _)
  exact ADet.give (raw11_ok hP [.view 15 n (mgRow (mgOf f))] [] _ _ _ rfl rfl) (by simp [frzC, frzA, frz, hb]) rfl rfl (fun _ _ => rfl)
theorem resolveO_ok (hP : C.P = Tryz.prog) (hL : ∀ w, C.laid w → LaidW w) : SpecOK C 41 S_resolveO := by
  rintro args objs U Os vc h hvc
  unfold S_resolveO at h
  split at h <;> simp only [Option.some.injEq, Prod.mk.injEq, reduceCtorEq] at h
  rename_i n o p per t m f fr
  obtain ⟨rfl, rfl, rfl⟩ := h
  obtain ⟨rfl, hn, ⟨hf, hs⟩⟩ := hvc
  refine ACalls.rowEq 0 (f' := mgRow (mgOf f)) rfl (fun i hi => (hf i hi).symm) ?_
  have hb : Nat.ble n n = true := Nat.ble_eq_true_of_le (Nat.le_refl _)
  exact ADet.give (resolve_ok hP hL [.view 15 n (mgRow (mgOf f)), .str o, .str p, .int .i64 per] [] _ _ _ rfl ⟨hn, rfl, hs⟩) (by simp [frzC, frzA, frz, hb]) rfl rfl (fun _ _ => rfl)
def awM : MG := ⟨[97], 1, 1, ⟨[111, 49], [57, 54, 51, 56, 53, 48, 55, 52], 5, 160, 1, 100, []⟩, ⟨[], [], 0, [], 0⟩⟩
theorem awake11_ok (hP : C.P = Tryz.prog) (hL : ∀ w, C.laid w → LaidW w) : SpecOK C 35 S_awake11 := by
  rintro args objs U Os vc h hvc
  unfold S_awake11 at h
  split at h <;> simp only [Option.some.injEq, Prod.mk.injEq, reduceCtorEq] at h
  obtain ⟨rfl, rfl, rfl⟩ := h
  refine SpecOK.wp0 (prg hP) [(41, .det S_resolveO)] 0 (.cons (resolveO_ok hP hL) .nil) (hP ▸ Tryz.func35) rfl rfl rfl ?_
  rw [nf_aw11]
  generalize hf : chunkA _ _ = f
  have f0 : f 0 = mgRow (atM [awM]) 0 := by rw [← hf]; rfl
  have one : ∀ {p : Nat → Prop}, p 0 → ∀ i, i < 1 → p i := fun h0 i hi => by
    match i, hi with
    | 0, _ => exact h0
  have r0 : mgOf f 0 = atM [awM] 0 := by unfold mgOf; rw [f0]; rfl
  exact ⟨⟨by omega, rfl, by omega⟩, one (by rw [f0]; rfl), ⟨rfl, by omega, ⟨one (by show f 0 = mgC (mgOf f 0); rw [r0, f0]; rfl), one (by rw [r0]; exact ⟨by decide, by decide, by decide, by decide⟩)⟩⟩, rfl, rfl⟩
end Go.Eng
