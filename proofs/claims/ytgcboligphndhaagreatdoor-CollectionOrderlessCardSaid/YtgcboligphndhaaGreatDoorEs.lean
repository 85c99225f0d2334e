/- The laws of messages: what their helpers answer. -/
import Derived.Test.YtgcboligphndhaaGreatDoorEo
import Derived.Test.YtgcboligphndhaaGreatDoorEr
import Derived.Test.YtgcboligphndhaaGreatDoorEp
import Derived.Test.YtgcboligphndhaaGreatDoorEq
import Derived.Test.YtgcboligphndhaaGreatDoorEn
namespace Go.Eng
open Go.Proofs Go.RowKit
variable {C : Ctx} [C.Loose]
set_option maxRecDepth 20000
theorem nf_valw (id code brand : List UInt8) (d c a : Int) (n : Nat) (nm vl : Nat → List UInt8) (R : AV → List (Nat × AObj) → Prop) : wpFn te [(160, .det S_validID), (198, .det S_level), (199, .det S_name), (200, .det S_qty)] [(13, L_vw n nm vl)] 2 Tryz.f159 [.agg [.str id, .str code, .str brand, .int .i64 d, .int .i64 c, .int .i64 a, .view 2 n (atRow nm vl)]] [] R = (True ∧ condP (!validIDF id) (R (.int .i64 90) []) (List.length code < 4294967281 ∧ condP (decide (levelV code < (1 : Int))) (R (.int .i64 91) []) (True ∧ condP (!nameF brand) (R (.int .i64 92) []) (True ∧ condP (!decide (qtyF d c a = (0 : Int))) (R (.int .i64 93) []) (condP (decide ((12 : Int) < (↑n : Int))) (R (.int .i64 94) []) (some (St.mk [(3, .map 0), (33, .view 2 n (atRow nm vl)), (34, .int .i64 (↑n : Int)), (35, .int .i64 0)] [(0, .amap (List.map (fun (p : AV × AV) => (AV.rn (ren 0 [(65, 0)]) (Prod.fst p), AV.rn (ren 0 [(65, 0)]) (Prod.snd p))) []))] 1 []) = some (St.mk [(3, .map 0), (33, .view 2 n (atRow nm vl)), (34, .int .i64 (↑n : Int)), (35, .int .i64 (↑0 : Int))] [(0, .amap (seenM nm 0))] 1 []) ∧ n ≤ 12 ∧ (∀ (i : Nat), i < n → List.length (nm i) < 4294967281 ∧ List.length (vl i) < 4294967281) ∧ condP (atsOK nm vl n) (R (.int .i64 0) []) (R (.int .i64 94) []))))))) := by kernel_rfl
theorem nf_vw_round (n : Nat) (nm vl : Nat → List UInt8) (k : Nat) (P : Nat → Prop) (R : Exit → St → Prop) : roundP ⟨te, [(199, .det S_name)], [], 0, 59, 0⟩ (loopB Tryz.f159 13) [3, 33, 34, 35] [] [2] (S_vw n nm vl) P R (S_vw n nm vl k) = (letI z3 := (Int.toNat (↑k : Int)); letI z2 := TI.desc (TI.mk TypeDesc.string 1 16 (Value.string (ByteArray.mk #[])) false); letI z1 := R .ret (St.mk [(2, .int .i64 94)] [] 0 []); letI z0 := (mget (seenM nm k) (.str (nm z3))); condP (decide ((↑k : Int) < (↑n : Int))) (((0 : Int) ≤ (↑k : Int) ∧ (↑k : Int) < (↑n : Int) ∧ 2 = 2) ∧ True ∧ condP (!nameF (nm z3)) z1 (True ∧ condP (!nameF (vl z3)) z1 ((KeysOK z2 (seenM nm k) ∧ .bool (boolOf (Option.getD z0 (.bool false))) = Option.getD z0 (.bool false)) ∧ condP (boolOf (Option.getD z0 (.bool false))) z1 (KeysOK z2 (seenM nm k) ∧ inR .i64 ((↑k : Int) + (1 : Int)) ∧ ∃ (i' : Nat), some (St.mk [(3, .map 0), (33, .view 2 n (atRow nm vl)), (34, .int .i64 (↑n : Int)), (35, .int .i64 ((↑k : Int) + (1 : Int)))] [(0, .amap (List.map (fun (p : AV × AV) => (AV.rn (ren 0 [(0, 0)]) (Prod.fst p), AV.rn (ren 0 [(0, 0)]) (Prod.snd p))) (mset (seenM nm k) (.str (nm z3)) (.bool true))))] 1 []) = some (St.mk [(3, .map 0), (33, .view 2 n (atRow nm vl)), (34, .int .i64 (↑n : Int)), (35, .int .i64 (↑i' : Int))] [(0, .amap (seenM nm i'))] 1 []) ∧ P i')))) (R (.exit 1) (St.mk [] [] 0 []))) := by kernel_rfl
theorem valw_loop (hP : C.P = Tryz.prog) (n : Nat) (nm vl : Nat → List UInt8) : LoopOK C 0 59 (loopC Tryz.f159 13) (L_vw n nm vl) := by
  rintro st Q ⟨h0, hn, hs, hQ⟩
  have hR := condP_elim hQ
  refine LoopOK.mk (prg hP) [(199, .det S_name)] 0 (.cons (name_ok hP) .nil) [3, 33, 34, 35] [] [2] (S_vw n nm vl) (fun k => k ≤ n ∧ atsOK nm vl k = true) (fun k => n - k) 0 ⟨by omega, rfl⟩ h0 (fun k hk => ?_)
  obtain ⟨hkn, hok⟩ := hk
  rw [nf_vw_round]
  have hbad : ∀ m, k ≤ m → k < m → atOK nm vl k = false → atsOK nm vl m = false := by
    intro m
    induction m with
    | zero => intro _ h; omega
    | succ m ih =>
      intro _ h2 h3
      rw [atsOK]
      by_cases hkm : k = m
      · subst hkm; rw [h3, Bool.and_false]
      · rw [ih (by omega) (by omega) h3, Bool.false_and]
  rw [Int.toNat_natCast]
  refine condP_dec (fun h1 => ?_) (fun h1 => ?_)
  · have hlt : k < n := by omega
    have hfail : atOK nm vl k = false → Q .ret (St.mk [(2, .int .i64 94)] [] 0 []) := fun h => hR.2 (hbad n hkn hlt h)
    have hk := seen_keys nm vl k hok
    rw [mget_seen]
    refine ⟨⟨by omega, by omega, rfl⟩, trivial, condP_not (fun h2 => hfail (by unfold atOK; rw [h2]; rfl)) (fun h2 => ⟨trivial, condP_not (fun h3 => hfail (by unfold atOK; rw [h3, Bool.and_false]; rfl)) (fun h3 => ⟨⟨hk, ?_⟩, ?_⟩)⟩)⟩
    · cases (List.range k).any (fun i => decide (nm i = nm k)) <;> rfl
    · cases ha : (List.range k).any (fun i => decide (nm i = nm k)) with
      | true => exact hfail (by unfold atOK; rw [fresh_any, ha]; simp)
      | false =>
        have hat : atOK nm vl k = true := by unfold atOK; rw [h2, h3, fresh_any, ha]; rfl
        refine ⟨hk, by simp only [inR]; omega, k + 1, ?_, ⟨by omega, by rw [atsOK, hok, hat]; rfl⟩, by omega⟩
        rw [mset_fresh nm _ _ k ha, show seenM nm k ++ [(.str (nm k), AV.bool true)] = seenM nm (k + 1) from rfl, seen_rn]
        rfl
  · have : k = n := by omega
    subst this
    exact hR.1 hok
theorem valV_ok (hP : C.P = Tryz.prog) (hL : ∀ w, C.laid w → LaidW w) : SpecOK C 159 S_valV := by
  rintro args objs U Os vc h hvc
  unfold S_valV at h
  split at h <;> simp only [Option.some.injEq, Prod.mk.injEq, reduceCtorEq] at h
  rename_i id code brand d c a n f
  obtain ⟨rfl, rfl, rfl⟩ := h
  obtain ⟨hn, h1, h2, hs, hf⟩ := hvc
  rw [hf]
  rw [← hf]
  generalize nmOf f = nm at *
  generalize vlOf f = vl at *
  rw [hf]
  unfold valF
  refine SpecOK.wpL (prg hP) [(160, .det S_validID), (198, .det S_level), (199, .det S_name), (200, .det S_qty)] [(13, L_vw n nm vl)] 2 (.cons (validID_ok hP (trim_ok hP)) (.cons (level_ok hP hL) (.cons (name_ok hP) (.cons (qty_ok hP) .nil)))) (hP ▸ Tryz.func159) rfl rfl rfl [(loopC Tryz.f159 13, L_vw n nm vl)] (by kernel_rfl) ⟨valw_loop hP n nm vl, trivial⟩ ?_
  rw [nf_valw, levelV_lt]
  refine ⟨trivial, condP_not (fun q1 => ?_) (fun q1 => ⟨h1, condP_not (fun q2 => ?_) (fun q2 => ⟨trivial, condP_not (fun q3 => ?_) (fun q3 => ⟨trivial, condP_ndec (fun q4 => ?_) (fun q4 => condP_dec (fun q5 => ?_) (fun q5 => ⟨rfl, by omega, hs, condP_intro (fun q6 => ?_) (fun q6 => ?_)⟩))⟩)⟩)⟩)⟩
  · rw [q1]; exact ⟨rfl, rfl⟩
  · rw [q1, q2]; exact ⟨rfl, rfl⟩
  · rw [q1, q2, q3]; exact ⟨rfl, rfl⟩
  · rw [q1, q2, q3, decide_eq_false q4]; exact ⟨rfl, rfl⟩
  · rw [q1, q2, q3, decide_eq_true q4, decide_eq_true (show 12 < n by omega)]; exact ⟨rfl, rfl⟩
  · rw [q1, q2, q3, decide_eq_true q4, decide_eq_false (show ¬ 12 < n by omega), q6]; exact ⟨rfl, rfl⟩
  · rw [q1, q2, q3, decide_eq_true q4, decide_eq_false (show ¬ 12 < n by omega), q6]; exact ⟨rfl, rfl⟩
end Go.Eng
namespace Go.Eng
open Go.Proofs Go.RowKit
variable {C : Ctx} [C.Loose]
set_option maxRecDepth 20000
theorem nf_cname (s : List UInt8) (R : AV → List (Nat × AObj) → Prop) : wpFn te [(159, .det S_val0)] [] 0 Tryz.f120 [.str s] [] R = ((2 < 4294967281 ∧ List.length s < 4294967281) ∧ R (.bool (decide ((valF [(48 : UInt8), 48, 48, 48, 48, 48, 48, 48] [(48 : UInt8), 49] s (4 : Int) (1 : Int) (1 : Int) 0 (fun (_x : Nat) => []) fun (_x : Nat) => []) = (0 : Int)))) []) := by kernel_rfl
theorem nf_cnum (n : Int) (R : AV → List (Nat × AObj) → Prop) : wpFn te [] [] 0 Tryz.f121 [.int .i64 n] [] R = (condP (decide ((1 : Int) ≤ n)) (R (.bool (decide (n ≤ (1048576 : Int)))) []) (R (.bool false) [])) := by kernel_rfl
theorem nf_calv (n : Int) (R : AV → List (Nat × AObj) → Prop) : wpFn te [] [] 0 Tryz.f124 [.int .i64 n] [] R = (condP (decide ((0 : Int) ≤ n)) (R (.bool (decide (n ≤ (182620 : Int)))) []) (R (.bool false) [])) := by kernel_rfl
theorem nf_weekday (n : Int) (R : AV → List (Nat × AObj) → Prop) : wpFn te [(124, .det S_calv)] [] 0 Tryz.f73 [.int .i64 n] [] R = (True ∧ condP (!(decide ((0 : Int) ≤ n) && decide (n ≤ (182620 : Int)))) (R (.int .i64 (-1 : Int)) []) ((7 : Int) ≠ (0 : Int) ∧ R (.int .i64 (Int.tmod n (7 : Int))) [])) := by kernel_rfl
theorem nf_slot (o p : List UInt8) (per : Int) (R : AV → List (Nat × AObj) → Prop) : wpFn te [(120, .det S_cname), (160, .det S_validID)] [] 0 Tryz.f123 [.str o, .str p, .int .i64 per] [] R = (List.length o < 4294967281 ∧ condP (nameF o) (True ∧ condP (validIDF p) (condP (decide ((0 : Int) ≤ per)) (R (.bool (decide (per ≤ (5999 : Int)))) []) (R (.bool false) [])) (R (.bool false) [])) (R (.bool false) [])) := by kernel_rfl
theorem nf_visit (o p : List UInt8) (per day st pr : Int) (rep : List UInt8) (R : AV → List (Nat × AObj) → Prop) : wpFn te [(123, .det S_slot), (160, .det S_validID), (73, .det S_weekday)] [] 0 Tryz.f122 [.agg [.str o, .str p, .int .i64 per, .int .i64 day, .int .i64 st, .int .i64 pr, .str rep]] [] R = (letI z3 := R (.bool false) []; letI z0 := (condP (decide (st = (5 : Int))) (True ∧ condP (validIDF rep) (R (.bool !decide (rep = p)) []) z3) (R (.bool (decide (rep = []))) [])); letI z2 := (condP (decide (pr < (1 : Int))) z3 (condP (decide ((1099511627776 : Int) < pr)) z3 z0)); letI z1 := (condP (decide (st = (3 : Int))) (condP (decide (st = (3 : Int))) (condP (!decide (pr = (0 : Int))) z3 z0) z3) (condP (decide (st = (4 : Int))) (condP (!decide (pr = (0 : Int))) z3 z0) z3)); List.length o < 4294967281 ∧ condP (!slotF o p per) z3 (True ∧ condP (decide ((bif decide ((0 : Int) ≤ day) && decide (day ≤ (182620 : Int)) then day % (7 : Int) else (-1 : Int)) < (0 : Int))) z3 (condP (decide (st = (1 : Int))) (condP (decide (st = (1 : Int))) z2 z1) (condP (decide (st = (2 : Int))) (condP (decide (st = (2 : Int))) z2 z1) (condP (decide (st = (5 : Int))) z2 z1))))) := by kernel_rfl
theorem nf_msg (m : MG) (R : AV → List (Nat × AObj) → Prop) : wpFn te [(120, .det S_cname), (123, .det S_slot), (122, .det S_visit), (121, .det S_num)] [] 0 Tryz.f72 [.agg [.str m.dev, .int .i64 m.seq, .int .i64 m.kind, .str m.v.o, .str m.v.p, .int .i64 m.v.per, .int .i64 m.v.day, .int .i64 m.v.st, .int .i64 m.v.pr, .str m.v.rep, .str m.d.o, .str m.d.p, .int .i64 m.d.per, .str m.d.dev, .int .i64 m.d.num]] [] R = (letI z6 := (MG.kind m = (1 : Int)); letI z5 := (MG.kind m = (2 : Int)); letI z4 := R (.int .i64 114) []; letI z2 := (condP (decide z5) (List.length (DT.o (MG.d m)) < 4294967281 ∧ condP (slotF (DT.o (MG.d m)) (DT.p (MG.d m)) (DT.per (MG.d m))) (List.length (DT.dev (MG.d m)) < 4294967281 ∧ condP (nameF (DT.dev (MG.d m))) (True ∧ condP (!numF (DT.num (MG.d m))) z4 (R (.int .i64 0) [])) z4) z4) (R (.int .i64 0) [])); letI z0 := (condP (decide z6) (condP (!(decide (DT.o (MG.d m) = []) && (decide (DT.p (MG.d m) = []) && (decide (DT.per (MG.d m) = (0 : Int)) && (decide (DT.dev (MG.d m) = []) && decide (DT.num (MG.d m) = (0 : Int))))))) z4 z2) z2); letI z1 := (condP (decide z5) (condP (!(decide (VT.o (MG.v m) = []) && (decide (VT.p (MG.v m) = []) && (decide (VT.per (MG.v m) = (0 : Int)) && (decide (VT.day (MG.v m) = (0 : Int)) && (decide (VT.st (MG.v m) = (0 : Int)) && (decide (VT.pr (MG.v m) = (0 : Int)) && decide (VT.rep (MG.v m) = [])))))))) (R (.int .i64 113) []) z0) z0); letI z3 := (condP (decide z6) (List.length (VT.o (MG.v m)) < 4294967281 ∧ condP (!visF (VT.mk (VT.o (MG.v m)) (VT.p (MG.v m)) (VT.per (MG.v m)) (VT.day (MG.v m)) (VT.st (MG.v m)) (VT.pr (MG.v m)) (VT.rep (MG.v m)))) (R (.int .i64 113) []) z1) z1); List.length (MG.dev m) < 4294967281 ∧ condP (!nameF (MG.dev m)) (R (.int .i64 110) []) (True ∧ condP (!numF (MG.seq m)) (R (.int .i64 111) []) (condP (!decide z6) (condP (!decide z5) (R (.int .i64 112) []) z3) z3))) := by kernel_rfl
theorem val0_ok (hP : C.P = Tryz.prog) (hL : ∀ w, C.laid w → LaidW w) : SpecOK C 159 S_val0 := by
  rintro args objs U Os vc h hvc
  unfold S_val0 at h
  split at h <;> simp only [Option.some.injEq, Prod.mk.injEq, reduceCtorEq] at h
  rename_i id code brand d c a
  obtain ⟨rfl, rfl, rfl⟩ := h
  exact ACalls.nilArg 2 (atRow (fun _ => []) (fun _ => [])) (valV_ok hP hL _ _ _ _ _ rfl ⟨Nat.zero_le _, hvc.1, hvc.2, fun i hi => absurd hi (Nat.not_lt_zero i), rfl⟩)
theorem cname_val (s : List UInt8) : decide (valF [48, 48, 48, 48, 48, 48, 48, 48] [48, 49] s 4 1 1 0 (fun _ => []) (fun _ => []) = 0) = nameF s := by
  unfold valF
  rw [show validIDF [48, 48, 48, 48, 48, 48, 48, 48] = true by decide +kernel, show parseOK [48, 49] = true by decide +kernel, show qtyF 4 1 1 = 0 by rfl]
  cases nameF s <;> rfl
theorem cname_ok (hP : C.P = Tryz.prog) (hL : ∀ w, C.laid w → LaidW w) : SpecOK C 120 S_cname := by
  rintro args objs U Os vc h hvc
  unfold S_cname at h
  split at h <;> simp only [Option.some.injEq, Prod.mk.injEq, reduceCtorEq] at h
  rename_i s
  obtain ⟨rfl, rfl, rfl⟩ := h
  refine SpecOK.wp0 (prg hP) [(159, .det S_val0)] 0 (.cons (val0_ok hP hL) .nil) (hP ▸ Tryz.func120) rfl rfl rfl ?_
  rw [nf_cname, cname_val]
  exact ⟨⟨by omega, hvc⟩, rfl, rfl⟩
theorem cnum_ok (hP : C.P = Tryz.prog) : SpecOK C 121 S_num := by
  have _ : C.Loose := inferInstance
  rintro args objs U Os vc h hvc
  unfold S_num at h
  split at h <;> simp only [Option.some.injEq, Prod.mk.injEq, reduceCtorEq] at h
  rename_i n
  obtain ⟨rfl, rfl, rfl⟩ := h
  refine SpecOK.wp0 (prg hP) [] 0 .nil (hP ▸ Tryz.func121) rfl rfl rfl ?_
  rw [nf_cnum]
  unfold numF
  exact condP_intro (fun h => by rw [h]; exact ⟨rfl, rfl⟩) (fun h => by rw [h]; exact ⟨rfl, rfl⟩)
theorem calv_ok (hP : C.P = Tryz.prog) : SpecOK C 124 S_calv := by
  have _ : C.Loose := inferInstance
  rintro args objs U Os vc h hvc
  unfold S_calv at h
  split at h <;> simp only [Option.some.injEq, Prod.mk.injEq, reduceCtorEq] at h
  rename_i n
  obtain ⟨rfl, rfl, rfl⟩ := h
  refine SpecOK.wp0 (prg hP) [] 0 .nil (hP ▸ Tryz.func124) rfl rfl rfl ?_
  rw [nf_calv]
  exact condP_intro (fun h => by rw [h]; exact ⟨rfl, rfl⟩) (fun h => by rw [h]; exact ⟨rfl, rfl⟩)
theorem weekday_ok (hP : C.P = Tryz.prog) : SpecOK C 73 S_weekday := by
  rintro args objs U Os vc h hvc
  unfold S_weekday at h
  split at h <;> simp only [Option.some.injEq, Prod.mk.injEq, reduceCtorEq] at h
  rename_i n
  obtain ⟨rfl, rfl, rfl⟩ := h
  refine SpecOK.wp0 (prg hP) [(124, .det S_calv)] 0 (.cons (calv_ok hP) .nil) (hP ▸ Tryz.func73) rfl rfl rfl ?_
  rw [nf_weekday]
  refine ⟨trivial, condP_not (fun h => by rw [h]; exact ⟨rfl, rfl⟩) (fun h => ⟨by decide, ?_⟩)⟩
  rw [h]
  have h0 : 0 ≤ n := of_decide_eq_true (Bool.and_eq_true_iff.1 h).1
  exact ⟨by rw [Int.tmod_eq_emod_of_nonneg h0]; rfl, rfl⟩
theorem slot_ok (hP : C.P = Tryz.prog) (hL : ∀ w, C.laid w → LaidW w) : SpecOK C 123 S_slot := by
  rintro args objs U Os vc h hvc
  unfold S_slot at h
  split at h <;> simp only [Option.some.injEq, Prod.mk.injEq, reduceCtorEq] at h
  rename_i o p per
  obtain ⟨rfl, rfl, rfl⟩ := h
  refine SpecOK.wp0 (prg hP) [(120, .det S_cname), (160, .det S_validID)] 0 (.cons (cname_ok hP hL) (.cons (validID_ok hP (trim_ok hP)) .nil)) (hP ▸ Tryz.func123) rfl rfl rfl ?_
  rw [nf_slot]
  unfold slotF
  exact ⟨hvc, condP_intro (fun h1 => ⟨trivial, condP_intro (fun h2 => condP_intro (fun h3 => by rw [h1, h2, h3]; exact ⟨rfl, rfl⟩) (fun h3 => by rw [h1, h2, h3]; exact ⟨rfl, rfl⟩)) (fun h2 => by rw [h1, h2]; exact ⟨rfl, rfl⟩)⟩) (fun h1 => by rw [h1]; exact ⟨rfl, rfl⟩)⟩
theorem wk_neg (day : Int) : decide ((bif decide (0 ≤ day) && decide (day ≤ 182620) then day % 7 else -1) < 0) = !(decide (0 ≤ day) && decide (day ≤ 182620)) := by
  cases h : decide (0 ≤ day) && decide (day ≤ 182620) with
  | true =>
    show decide (day % 7 < 0) = false
    rw [decide_eq_false]
    have := Int.emod_nonneg day (show (7 : Int) ≠ 0 by decide)
    omega
  | false => rfl
theorem visit_ok (hP : C.P = Tryz.prog) (hL : ∀ w, C.laid w → LaidW w) : SpecOK C 122 S_visit := by
  rintro args objs U Os vc h hvc
  unfold S_visit at h
  split at h <;> simp only [Option.some.injEq, Prod.mk.injEq, reduceCtorEq] at h
  rename_i o p per day st pr rep
  obtain ⟨rfl, rfl, rfl⟩ := h
  refine SpecOK.wp0 (prg hP) [(123, .det S_slot), (160, .det S_validID), (73, .det S_weekday)] 0 (.cons (slot_ok hP hL) (.cons (validID_ok hP (trim_ok hP)) (.cons (weekday_ok hP) .nil))) (hP ▸ Tryz.func122) rfl rfl rfl ?_
  rw [nf_visit, wk_neg]
  refine ⟨hvc, condP_not (fun h1 => ?_) (fun h1 => ⟨trivial, condP_not (fun h2 => ?_) (fun h2 => ?_)⟩)⟩
  · unfold visF; simp [h1]
  · unfold visF; simp [h1, h2]
  have hv : visF ⟨o, p, per, day, st, pr, rep⟩ = (bif decide (st = 1) || decide (st = 2) then decide (1 ≤ pr) && decide (pr ≤ 1099511627776) && decide (rep = [])
    else bif decide (st = 3) || decide (st = 4) then decide (pr = 0) && decide (rep = [])
    else bif decide (st = 5) then decide (1 ≤ pr) && decide (pr ≤ 1099511627776) && validIDF rep && !decide (rep = p) else false) := by
    unfold visF; simp only [h1, Bool.true_and, h2]
  rw [hv]
  have e1 : decide (1 ≤ pr) = !decide (pr < 1) := by by_cases h : pr < 1 <;> simp [h] <;> omega
  have e2 : decide (pr ≤ 1099511627776) = !decide (1099511627776 < pr) := by by_cases h : 1099511627776 < pr <;> simp [h] <;> omega
  rw [e1, e2]
  clear hv h1 h2 e1 e2
  by_cases s1 : st = 1
  · subst s1
    generalize decide (pr < 1) = b1, decide (1099511627776 < pr) = b2, decide (pr = 0) = b3, decide (rep = p) = b4, decide (rep = []) = b5, validIDF rep = b6
    cases b1 <;> cases b2 <;> exact ⟨rfl, rfl⟩
  by_cases s2 : st = 2
  · subst s2
    generalize decide (pr < 1) = b1, decide (1099511627776 < pr) = b2, decide (pr = 0) = b3, decide (rep = p) = b4, decide (rep = []) = b5, validIDF rep = b6
    cases b1 <;> cases b2 <;> exact ⟨rfl, rfl⟩
  by_cases s3 : st = 3
  · subst s3
    generalize decide (pr < 1) = b1, decide (1099511627776 < pr) = b2, decide (pr = 0) = b3, decide (rep = p) = b4, decide (rep = []) = b5, validIDF rep = b6
    cases b3 <;> exact ⟨rfl, rfl⟩
  by_cases s4 : st = 4
  · subst s4
    generalize decide (pr < 1) = b1, decide (1099511627776 < pr) = b2, decide (pr = 0) = b3, decide (rep = p) = b4, decide (rep = []) = b5, validIDF rep = b6
    cases b3 <;> exact ⟨rfl, rfl⟩
  by_cases s5 : st = 5
  · subst s5
    generalize decide (pr < 1) = b1, decide (1099511627776 < pr) = b2, decide (pr = 0) = b3, decide (rep = p) = b4, decide (rep = []) = b5, validIDF rep = b6
    cases b1 <;> cases b2 <;> cases b6 <;> first | exact ⟨rfl, rfl⟩ | exact ⟨trivial, rfl, rfl⟩
  rw [decide_eq_false s1, decide_eq_false s2, decide_eq_false s3, decide_eq_false s4, decide_eq_false s5]
  exact ⟨rfl, rfl⟩
theorem msg_ok (hP : C.P = Tryz.prog) (hL : ∀ w, C.laid w → LaidW w) : SpecOK C 72 S_msg := by
  rintro args objs U Os vc h hvc
  unfold S_msg at h
  split at h <;> simp only [Option.some.injEq, Prod.mk.injEq, reduceCtorEq] at h
  rename_i dev seq kind o p per day st pr rep o2 p2 per2 dev2 num
  obtain ⟨rfl, rfl, rfl⟩ := h
  refine SpecOK.wp0 (prg hP) [(120, .det S_cname), (123, .det S_slot), (122, .det S_visit), (121, .det S_num)] 0 (.cons (cname_ok hP hL) (.cons (slot_ok hP hL) (.cons (visit_ok hP hL) (.cons (cnum_ok hP) .nil)))) (hP ▸ Tryz.func72) rfl rfl rfl ?_
  have nf := fun R => nf_msg ⟨dev, seq, kind, ⟨o, p, per, day, st, pr, rep⟩, ⟨o2, p2, per2, dev2, num⟩⟩ R
  refine (nf _).mpr ?_
  clear nf
  obtain ⟨l1, l2, l3, l4⟩ := hvc
  unfold msgF VT.nil DT.nil
  dsimp only
  generalize (decide (o = []) && (decide (p = []) && (decide (per = 0) && (decide (day = 0) && (decide (st = 0) && (decide (pr = 0) && decide (rep = []))))))) = vn
  generalize (decide (o2 = []) && (decide (p2 = []) && (decide (per2 = 0) && (decide (dev2 = []) && decide (num = 0))))) = dn
  generalize nameF dev = b1, numF seq = b2, visF ⟨o, p, per, day, st, pr, rep⟩ = b3, slotF o2 p2 per2 = b4, nameF dev2 = b5, numF num = b6
  refine ⟨l1, ?_⟩
  cases b1
  · exact ⟨rfl, rfl⟩
  refine ⟨trivial, ?_⟩
  cases b2
  · exact ⟨rfl, rfl⟩
  by_cases k1 : kind = 1
  · subst k1
    refine ⟨l2, ?_⟩
    cases b3 <;> cases dn <;> exact ⟨rfl, rfl⟩
  by_cases k2 : kind = 2
  · subst k2
    cases vn
    · exact ⟨rfl, rfl⟩
    refine ⟨l3, ?_⟩
    cases b4
    · exact ⟨rfl, rfl⟩
    refine ⟨l4, ?_⟩
    cases b5
    · exact ⟨rfl, rfl⟩
    refine ⟨trivial, ?_⟩
    cases b6 <;> exact ⟨rfl, rfl⟩
  rw [decide_eq_false k1, decide_eq_false k2]
  exact ⟨rfl, rfl⟩
end Go.Eng
namespace Go.Eng
open Go.Proofs Go.RowKit
variable {C : Ctx} [C.Loose]
set_option maxRecDepth 20000
theorem nf_mrg (g : Nat → MG) (n : Nat) (h : Nat → MG) (m : Nat) (R : AV → List (Nat × AObj) → Prop) : wpFn te [(113, .rel R_concat), (72, .det S_msg), (114, .rel R_sortM), (116, .rel R_cmpct)] [(3, L_mg (catG (nn2 n m) (gg2 g h) 2) (sumN (nn2 n m) 2))] 0 Tryz.f61 [.view 15 n (mgRow g), .view 15 m (mgRow h)] [] R = (letI z3 := (List.flatten (List.replicate (nat_lit 0) [.nil]) : List AV); letI z2 := catG (nn2 n m) (gg2 g h) 2; letI z1 := (TI.sz (TI.mk (TypeDesc.slice (40 : TypeId)) 1 24 (Value.slice none 0 0) false)); letI z0 := flL z2 (sumN (nn2 n m) 2); (2 ≤ 16777216 ∧ 1 = 1 ∧ 2 ≤ 9223372036854775807) ∧ (∀ (i : Nat), i < 2 → nrefL (chunkA z1 (.view 15 n (mgRow g) :: .view 15 m (mgRow h) :: List.append [] z3) i) = true) ∧ ∃ (nn : Nat → Nat), ∃ (gg : Nat → Nat → MG), 22 = 22 ∧ false = false ∧ 2 = 2 ∧ 2 ≤ 1000 ∧ (∀ (i : Nat), i < 2 → [AV.view 15 (nn i) (mgRow (gg i))] = chunkA z1 (.view 15 n (mgRow g) :: .view 15 m (mgRow h) :: List.append [] z3) i) ∧ sumN nn 2 ≤ 1000000 ∧ (∀ (i : Nat), i < 2 → true = true) ∧ (TEq [(5, .own 0 0), (11, .view 15 (sumN nn 2) (mgRow (catG nn gg 2))), (12, .int .i64 (↑(sumN nn 2) : Int)), (13, .int .i64 0)] [(5, .own 0 0), (11, .view 15 (sumN (nn2 n m) 2) (mgRow z2)), (12, .int .i64 (↑(sumN (nn2 n m) 2) : Int)), (13, .int .i64 (↑0 : Int))] ∧ RowsEq [(0, .row 40 15 0 (fun (_x : Nat) => []) false)] [(0, .row 40 15 0 (mgRow (atM (flL z2 0))) false)]) ∧ sumN (nn2 n m) 2 ≤ 200000 ∧ (∀ (i : Nat), i < sumN (nn2 n m) 2 → MG.Sm (catG (nn2 n m) (gg2 g h) 2 i)) ∧ (∀ (i : Nat), i < List.length z0 → true = true) ∧ 40 = 40 ∧ false = false ∧ List.length z0 = List.length z0 ∧ List.length z0 ≤ 1000000 ∧ mgRow (atM z0) = mgRow (mgOf (mgRow (atM z0))) ∧ ∀ (h_1 : Nat → MG), List.Perm (lst h_1 (List.length z0)) (lst (mgOf (mgRow (atM z0))) (List.length z0)) → (∀ (i j : Nat), i < j → j < List.length z0 → ¬ordM (h_1 j) (h_1 i) < (0 : Int)) → (∀ (i : Nat), i < List.length z0 → true = true) ∧ (∀ (i : Nat), i < List.length z0 → true = true) ∧ 40 = 40 ∧ false = false ∧ List.length z0 = List.length z0 ∧ List.length z0 ≤ 1000000 ∧ mgRow h_1 = mgRow (mgOf (mgRow h_1)) ∧ ∀ (k : Nat) (h_2 : Nat → MG), lst h_2 k = ddL (mgOf (mgRow h_1)) (List.length z0) → (∀ (i : Nat), i < k → true = true) ∧ (∀ (i : Nat), i < k → true = true) ∧ ∃ (O' : List (Nat × AObj)), RowsEq [(0, .row 40 15 k (mgRow h_2) false)] O' ∧ R (.own 0 k) O') := by kernel_rfl
def shrtE1 : List AV := (List.flatten (List.replicate (nat_lit 0) [.str ([]), .int .i64 0, .int .i64 0, .str ([]), .str ([]), .int .i64 0, .int .i64 0, .int .i64 0, .int .i64 0, .str ([]), .str ([]), .str ([]), .int .i64 0, .str ([]), .int .i64 0]))
theorem nf_mg_round (g : Nat → MG) (n k : Nat) (P : Nat → Prop) (R : Exit → St → Prop) : roundP ⟨te, [(72, .det S_msg)], [], 0, 29, 0⟩ (loopB Tryz.f61 3) [5, 11, 12, 13] [5] [] (S_mg g n) P R (S_mg g n k) = (letI z2 := List.length (flL g k) + 1; letI z1 := List.length (flL g k); letI z3 := ([(0, .row 40 15 z1 (mgRow (atM (flL g k))) false)] : List (Nat × AObj)); letI z0 := (g (Int.toNat (↑k : Int))); condP (decide ((↑k : Int) < (↑n : Int))) (((0 : Int) ≤ (↑k : Int) ∧ (↑k : Int) < (↑n : Int) ∧ 15 = 15) ∧ (List.length (MG.dev z0) < 4294967281 ∧ List.length (VT.o (MG.v z0)) < 4294967281 ∧ List.length (DT.o (MG.d z0)) < 4294967281 ∧ List.length (DT.dev (MG.d z0)) < 4294967281) ∧ condP (decide (msgF (MG.mk (MG.dev z0) (MG.seq z0) (MG.kind z0) (VT.mk (VT.o (MG.v z0)) (VT.p (MG.v z0)) (VT.per (MG.v z0)) (VT.day (MG.v z0)) (VT.st (MG.v z0)) (VT.pr (MG.v z0)) (VT.rep (MG.v z0))) (DT.mk (DT.o (MG.d z0)) (DT.p (MG.d z0)) (DT.per (MG.d z0)) (DT.dev (MG.d z0)) (DT.num (MG.d z0)))) = (0 : Int))) ((15 ≤ 16777216 ∧ 15 = 15 ∧ 1 ≤ 9223372036854775807) ∧ ((1 ≤ 1 ∧ 15 = 15) ∧ List.length (flL g k) ≤ List.length (flL g k) ∧ 15 = 15 ∧ 40 = 40 ∧ 15 = 15 ∧ List.length (flL g k) + 1 ≤ 9223372036854775807 ∧ z2 * TI.bytes shrtE0 ≤ 140737488355328) ∧ inR .i64 ((↑k : Int) + (1 : Int)) ∧ ∃ (i' : Nat), (TEq [(5, .own 0 z2), (11, .view 15 n (mgRow g)), (12, .int .i64 (↑n : Int)), (13, .int .i64 ((↑k : Int) + (1 : Int)))] [(5, .own 0 (List.length (flL g i'))), (11, .view 15 n (mgRow g)), (12, .int .i64 (↑n : Int)), (13, .int .i64 (↑i' : Int))] ∧ RowsEq [(0, .row 40 15 z2 (apF z1 (mgRow (atM (flL g k))) (chunkA (TI.sz shrtE0) (.str (MG.dev z0) :: .int .i64 (MG.seq z0) :: .int .i64 (MG.kind z0) :: .str (VT.o (MG.v z0)) :: .str (VT.p (MG.v z0)) :: .int .i64 (VT.per (MG.v z0)) :: .int .i64 (VT.day (MG.v z0)) :: .int .i64 (VT.st (MG.v z0)) :: .int .i64 (VT.pr (MG.v z0)) :: .str (VT.rep (MG.v z0)) :: .str (DT.o (MG.d z0)) :: .str (DT.p (MG.d z0)) :: .int .i64 (DT.per (MG.d z0)) :: .str (DT.dev (MG.d z0)) :: .int .i64 (DT.num (MG.d z0)) :: List.append [] shrtE1))) false)] [(0, .row 40 15 (List.length (flL g i')) (mgRow (atM (flL g i'))) false)]) ∧ P i') (inR .i64 ((↑k : Int) + (1 : Int)) ∧ ∃ (i' : Nat), (TEq [(5, .own 0 z1), (11, .view 15 n (mgRow g)), (12, .int .i64 (↑n : Int)), (13, .int .i64 ((↑k : Int) + (1 : Int)))] [(5, .own 0 (List.length (flL g i'))), (11, .view 15 n (mgRow g)), (12, .int .i64 (↑n : Int)), (13, .int .i64 (↑i' : Int))] ∧ RowsEq z3 [(0, .row 40 15 (List.length (flL g i')) (mgRow (atM (flL g i'))) false)]) ∧ P i')) ((∀ (i : Nat), i < List.length (flL g k) → true = true) ∧ ∃ (O' : List (Nat × AObj)), RowsEq z3 O' ∧ R (.exit 0) (St.mk [(5, .own 0 z1)] O' 1 []))) := by kernel_rfl
theorem ddL_sorted {h : Nat → MG} {n : Nat} (hs : ∀ i j, i < j → j < n → ¬ ordM (h j) (h i) < 0) : Asc ordM (ddL h n) ∧ ∀ x, x ∈ ddL h n ↔ x ∈ lst h n := by
  have le : ∀ i j, i < j → j < n → ordM (h i) (h j) ≤ 0 := fun i j hij hj => by
    have := hs i j hij hj
    rw [ordM_preC.neg] at this
    omega
  have nk : ∀ j, 0 < j → keepF h j = true → h j ≠ h (j - 1) := fun j hj hk e => by
    rw [keepF_pos hj, eqM_iff.2 e] at hk; cases hk
  refine ⟨?_, fun x => ⟨fun hx => ?_, fun hx => ?_⟩⟩
  · unfold Asc ddL
    refine List.pairwise_map.2 ((List.pairwise_lt_range.filter _).imp_of_mem fun {i j} hi hj hij => ?_)
    obtain ⟨hjn, hjk⟩ := List.mem_filter.1 hj
    have hjn := List.mem_range.1 hjn
    have l1 := le i j hij hjn
    rcases Int.lt_or_eq_of_le l1 with h0 | h0
    · exact h0
    · exfalso
      have e := ordM_zero.1 h0
      refine nk j (by omega) hjk ?_
      by_cases q : i = j - 1
      · rw [← q, e]
      · have l2 := le i (j - 1) (by omega) (by omega)
        have l3 := le (j - 1) j (by omega) hjn
        rw [e] at l2
        have := ordM_preC.neg (h (j - 1)) (h j)
        exact ordM_zero.1 (by omega)
  · unfold ddL at hx
    obtain ⟨i, hi, rfl⟩ := List.mem_map.1 hx
    exact List.mem_map.2 ⟨i, (List.mem_filter.1 hi).1, rfl⟩
  · obtain ⟨i, hi, rfl⟩ := List.mem_map.1 hx
    have key : ∀ i, i < n → h i ∈ ddL h n := fun i => by
      induction i with
      | zero => intro hi; exact List.mem_map.2 ⟨0, List.mem_filter.2 ⟨List.mem_range.2 hi, rfl⟩, rfl⟩
      | succ i ih =>
        intro hi
        cases q : keepF h (i + 1) with
        | true => exact List.mem_map.2 ⟨i + 1, List.mem_filter.2 ⟨List.mem_range.2 hi, q⟩, rfl⟩
        | false =>
          rw [keepF_pos (Nat.succ_pos i)] at q
          have e : eqM (h (i + 1)) (h i) = true := by
            have : i + 1 - 1 = i := rfl
            rw [this] at q
            cases r : eqM (h (i + 1)) (h i) with
            | true => rfl
            | false => rw [r] at q; cases q
          rw [eqM_iff.1 e]
          exact ih (by omega)
    exact key i (List.mem_range.1 hi)
theorem lst_atM (L : List MG) : lst (atM L) L.length = L := by
  apply List.ext_getElem
  · simp [lst]
  · intro i h1 h2
    simp [lst, atM, h2]
theorem lst_isM {g : Nat → MG} {L : List MG} {n : Nat} (h : lst g n = L) : n = L.length ∧ ∀ i, i < n → g i = atM L i := by
  subst h
  refine ⟨by simp [lst], fun i hi => ?_⟩
  simp [lst, atM, hi]
theorem flL_succ (g : Nat → MG) (k : Nat) : flL g (k + 1) = flL g k ++ bif okM (g k) then [g k] else [] := by
  unfold flL
  rw [lst_snocM, List.filter_append]
  cases h : okM (g k) <;> simp [h]
theorem flL_len (g : Nat → MG) (k : Nat) : (flL g k).length ≤ k := by
  have := List.length_filter_le okM (lst g k)
  have e : (lst g k).length = k := by simp [lst]
  unfold flL; omega
theorem cat2 (g : Nat → MG) (n : Nat) (h : Nat → MG) (m : Nat) : sumN (nn2 n m) 2 = n + m ∧ lst (catG (nn2 n m) (gg2 g h) 2) (n + m) = lst g n ++ lst h m ∧ ∀ i, i < n + m → (i < n ∧ catG (nn2 n m) (gg2 g h) 2 i = g i) ∨ (i - n < m ∧ n ≤ i ∧ catG (nn2 n m) (gg2 g h) 2 i = h (i - n)) := by
  have s1 : sumN (nn2 n m) 1 = n := by simp [sumN, nn2]
  have at1 : ∀ i, i < n + m → (i < n ∧ catG (nn2 n m) (gg2 g h) 2 i = g i) ∨ (i - n < m ∧ n ≤ i ∧ catG (nn2 n m) (gg2 g h) 2 i = h (i - n)) := fun i hi => by
    by_cases q : i < n
    · refine .inl ⟨q, ?_⟩
      rw [catG, s1, if_pos q, catG]
      have : sumN (nn2 n m) 0 = 0 := rfl
      rw [this, if_neg (by omega)]
      rfl
    · refine .inr ⟨by omega, by omega, ?_⟩
      rw [catG, s1, if_neg q]
      rfl
  refine ⟨by rw [sumN, s1]; rfl, ?_, at1⟩
  apply List.ext_getElem
  · simp [lst]
  · intro i h1 h2
    have hi : i < n + m := by simpa [lst] using h1
    rcases at1 i hi with ⟨q, e⟩ | ⟨q1, q2, e⟩
    · rw [List.getElem_append_left (by simp [lst, q])]
      simp [lst, e]
    · rw [List.getElem_append_right (by simp [lst, q2])]
      simp [lst, e]
theorem mg_loop (hP : C.P = Tryz.prog) (hL : ∀ w, C.laid w → LaidW w) (g : Nat → MG) (n : Nat) : LoopOK C 0 29 (loopC Tryz.f61 3) (L_mg g n) := by
  rintro st Q ⟨h0, hn, hs, hQ⟩
  refine AWP.ownNil 5 40 15 ?_
  refine LoopOK.mk (prg hP) [(72, .det S_msg)] 0 (.cons (msg_ok hP hL) .nil) [5, 11, 12, 13] [5] [] (S_mg g n) (fun k => k ≤ n) (fun k => n - k) 0 (Nat.zero_le _) h0 (fun k hk => ?_) (fun i => ⟨fun _ _ => rfl, trivial⟩)
  rw [nf_mg_round, Int.toNat_natCast]
  have hlen := flL_len g k
  have hsu := flL_succ g k
  refine condP_dec (fun h1 => ?_) (fun h1 => ?_)
  · have hk := hs k (by omega)
    refine ⟨⟨by omega, by omega, rfl⟩, ⟨hk.a, hk.b, hk.c, hk.d⟩, condP_dec (fun q => ?_) (fun q => ?_)⟩
    · have q : msgF (g k) = 0 := q
      have e : flL g (k + 1) = flL g k ++ [g k] := by rw [hsu, show okM (g k) = true from decide_eq_true q]; rfl
      refine ⟨⟨by omega, rfl, by omega⟩, ⟨⟨Nat.le_refl _, rfl⟩, Nat.le_refl _, rfl, rfl, rfl, by omega, ?_⟩, by simp only [inR]; omega, k + 1, ?_, by omega, by omega⟩
      · show ((flL g k).length + 1) * 176 ≤ _
        omega
      · rw [e, List.length_append]
        refine ⟨rfl, ⟨rfl, rfl, rfl, rfl, rfl, fun j hj => ?_⟩, trivial⟩
        generalize flL g k = L at *
        unfold apF
        by_cases h : j < L.length
        · rw [if_pos h]
          have : atM (L ++ [g k]) j = atM L j := by simp [atM, List.getD_eq_getElem?_getD, List.getElem?_append_left h]
          unfold mgRow
          rw [this]
        · have hj : j = L.length := by omega
          subst hj
          rw [if_neg h, Nat.sub_self]
          have : atM (L ++ [g k]) L.length = g k := by simp [atM]
          unfold mgRow
          rw [this]; rfl
    · have q : ¬ msgF (g k) = 0 := q
      have e : flL g (k + 1) = flL g k := by rw [hsu, show okM (g k) = false from decide_eq_false q]; simp
      refine ⟨by simp only [inR]; omega, k + 1, ?_, by omega, by omega⟩
      rw [e]
      exact ⟨rfl, ⟨rfl, rfl, rfl, rfl, rfl, fun _ _ => rfl⟩, trivial⟩
  · have : k = n := by omega
    subst this
    exact ⟨fun _ _ => rfl, _, rowsEqR _, hQ⟩
theorem mrg_ok (hP : C.P = Tryz.prog) (hL : ∀ w, C.laid w → LaidW w) : SpecOK C 61 S_mrg := by
  rintro args objs U Os vc hh hvc
  unfold S_mrg at hh
  split at hh <;> simp only [Option.some.injEq, Prod.mk.injEq, reduceCtorEq] at hh
  rename_i n f m h
  obtain ⟨rfl, rfl, rfl⟩ := hh
  obtain ⟨hn, hm, hf, hh, s1, s2⟩ := hvc
  generalize mgOf f = g at *
  generalize mgOf h = j at *
  subst hf; subst hh
  refine SpecOK.wpL (prg hP) [(113, .rel R_concat), (72, .det S_msg), (114, .rel R_sortM), (116, .rel R_cmpct)] [(3, L_mg (catG (nn2 n m) (gg2 g j) 2) (sumN (nn2 n m) 2))] 0 (.cons (concat_ok hP) (.cons (msg_ok hP hL) (.cons (sortM_ok hP) (.cons (cmpct_ok hP) .nil)))) (hP ▸ Tryz.func61) rfl rfl rfl [(loopC Tryz.f61 3, L_mg (catG (nn2 n m) (gg2 g j) 2) (sumN (nn2 n m) 2))] (by kernel_rfl) ⟨mg_loop hP hL _ _, trivial⟩ ?_
  rw [nf_mrg]
  obtain ⟨c1, c2, c3⟩ := cat2 g n j m
  have two : ∀ {p : Nat → Prop}, p 0 → p 1 → ∀ i, i < 2 → p i := fun h0 h1 i hi => by
    match i, hi with
    | 0, _ => exact h0
    | 1, _ => exact h1
  have sm : ∀ i, i < n + m → (catG (nn2 n m) (gg2 g j) 2 i).Sm := fun i hi => by
    rcases c3 i hi with ⟨q, e⟩ | ⟨q1, q2, e⟩
    · rw [e]; exact s1 i q
    · rw [e]; exact s2 _ q1
  refine ⟨⟨by omega, rfl, by omega⟩, two rfl rfl, nn2 n m, gg2 g j, rfl, rfl, rfl, by omega, two rfl rfl, by rw [c1]; omega, two rfl rfl, ⟨rfl, ⟨rfl, rfl, rfl, rfl, rfl, fun i hi => absurd hi (Nat.not_lt_zero i)⟩, trivial⟩, ?_⟩
  have hfl : flL (catG (nn2 n m) (gg2 g j) 2) (n + m) = (lst g n ++ lst j m).filter okM := by unfold flL; rw [c2]
  have hlen := flL_len (catG (nn2 n m) (gg2 g j) 2) (n + m)
  have hLd : mrgL g n j m = mrgF (lst g n ++ lst j m) := rfl
  rw [c1]
  generalize catG (nn2 n m) (gg2 g j) 2 = cc at *
  generalize hF : flL cc (n + m) = Fl at *
  refine ⟨by omega, sm, fun _ _ => rfl, rfl, rfl, rfl, by omega, rfl, fun h1 hp hs => ⟨fun _ _ => rfl, fun _ _ => rfl, rfl, rfl, rfl, by omega, rfl, fun k h2 hd => ?_⟩⟩
  have hp : (lst h1 Fl.length).Perm (lst (atM Fl) Fl.length) := hp
  have hd : lst h2 k = ddL h1 Fl.length := hd
  rw [lst_atM] at hp
  obtain ⟨a1, a2⟩ := ddL_sorted hs
  have hM : ddL h1 Fl.length = mrgL g n j m := by
    refine mrgF_uniq a1 fun x => ?_
    rw [a2, hp.mem_iff, hfl, List.mem_filter]
    unfold okM
    rw [decide_eq_true_eq]
  rw [hM] at hd
  show _ ∧ _ ∧ ∃ O', RowsEq _ O' ∧ AV.own 0 k = .own 0 (mrgL g n j m).length ∧ O' = [(0, .row 40 15 (mrgL g n j m).length (mgRow (atM (mrgL g n j m))) false)]
  generalize mrgL g n j m = M at *
  obtain ⟨rfl, hat⟩ := lst_isM hd
  refine ⟨fun _ _ => rfl, fun _ _ => rfl, [(0, .row 40 15 M.length (mgRow (atM M)) false)], ⟨⟨rfl, rfl, rfl, rfl, rfl, fun i hi => ?_⟩, trivial⟩, rfl, rfl⟩
  unfold mgRow
  rw [hat i hi]
end Go.Eng
namespace Go.Eng
def markC (a b : MG) : Int := orL [cmpS a.dev b.dev, cmpI a.seq b.seq]
theorem markC_preC : PreC markC := (cmpS_preC.comap MG.dev).or ((cmpI_preC.comap MG.seq).or .nil)
theorem markC_zero {a b : MG} : markC a b = 0 ↔ mk2 a = mk2 b := by
  simp only [markC, orL_zero, cmpS_zero, cmpI_zero, show orL [] = 0 from rfl, and_true, mk2, Prod.mk.injEq]
theorem orL_two {x y : Int} {l : List Int} (h : orL (x :: y :: l) < 0) : orL [x, y] ≤ 0 := by
  by_cases q : x = 0
  · by_cases q' : y = 0
    · simp [orL, q, q']
    · simp only [orL, q, q', decide_true, decide_false, cond_true, cond_false] at h ⊢; omega
  · simp only [orL, q, decide_false, cond_false] at h ⊢; omega
theorem markC_le {a b : MG} (h : ordM a b < 0) : markC a b ≤ 0 := orL_two h
theorem atM_get {L : List MG} {i : Nat} (h : i < L.length) : atM L i = L[i] := by simp [atM, h]
theorem atM_mem {L : List MG} {i : Nat} (h : i < L.length) : atM L i ∈ L := by rw [atM_get h]; exact List.getElem_mem h
theorem ascM_at {c : MG → MG → Int} {L : List MG} (h : Asc c L) {i j : Nat} (hij : i < j) (hj : j < L.length) : c (atM L i) (atM L j) < 0 := by
  rw [atM_get (show i < L.length by omega), atM_get hj]
  exact List.pairwise_iff_getElem.1 h i j (by omega) hj hij
theorem mark_mono {L : List MG} (h : Asc ordM L) {i j : Nat} (hij : i ≤ j) (hj : j < L.length) : markC (atM L i) (atM L j) ≤ 0 := by
  rcases Nat.lt_or_eq_of_le hij with q | q
  · exact markC_le (ascM_at h q hj)
  · subst q; rw [markC_preC.self]; exact Int.le_refl 0
theorem mark_mid {L : List MG} (h : Asc ordM L) {i j k : Nat} (hij : i ≤ j) (hjk : j ≤ k) (hk : k < L.length) (e : mk2 (atM L i) = mk2 (atM L k)) : mk2 (atM L j) = mk2 (atM L i) := by
  have a := mark_mono h hij (by omega)
  have b := mark_mono h hjk hk
  have c : markC (atM L k) (atM L i) ≤ 0 := by rw [markC_zero.2 e.symm]; exact Int.le_refl 0
  have d := markC_preC.trans _ _ _ b c
  have n := markC_preC.neg (atM L j) (atM L i)
  have : markC (atM L i) (atM L j) = 0 := by omega
  exact (markC_zero.1 this).symm
theorem numC_pos (g : Nat → MG) (p : List UInt8 × Int) : ∀ n, 0 < numC g p n ↔ ∃ i, i < n ∧ mk2 (g i) = p
  | 0 => by simp [numC]
  | n + 1 => by
    have ih := numC_pos g p n
    have nn := (numC_le g p n).1
    rw [numC]
    cases q : decide ((mk2 (g n)).1 = p.1) && decide ((mk2 (g n)).2 = p.2) with
    | true =>
      have e := same2.1 q
      simp only [cond_true]
      exact ⟨fun _ => ⟨n, by omega, e⟩, fun _ => by omega⟩
    | false =>
      have ne : mk2 (g n) ≠ p := fun e => by rw [e] at q; simp at q
      simp only [cond_false]
      constructor
      · intro h
        obtain ⟨i, hi, e⟩ := ih.1 (by omega)
        exact ⟨i, by omega, e⟩
      · rintro ⟨i, hi, e⟩
        have : i ≠ n := fun q => ne (q ▸ e)
        have := ih.2 ⟨i, by omega, e⟩
        omega
theorem numC_two (g : Nat → MG) (p : List UInt8 × Int) : ∀ n, 1 < numC g p n ↔ ∃ i j, i < j ∧ j < n ∧ mk2 (g i) = p ∧ mk2 (g j) = p
  | 0 => by simp [numC]
  | n + 1 => by
    have ih := numC_two g p n
    have ip := numC_pos g p n
    rw [numC]
    cases q : decide ((mk2 (g n)).1 = p.1) && decide ((mk2 (g n)).2 = p.2) with
    | true =>
      have e := same2.1 q
      simp only [cond_true]
      constructor
      · intro h
        obtain ⟨i, hi, e'⟩ := ip.1 (by omega)
        exact ⟨i, n, hi, by omega, e', e⟩
      · rintro ⟨i, j, hij, hj, e1, e2⟩
        have := ip.2 ⟨i, by omega, e1⟩
        omega
    | false =>
      have ne : mk2 (g n) ≠ p := fun e => by rw [e] at q; simp at q
      simp only [cond_false]
      constructor
      · intro h
        obtain ⟨i, j, hij, hj, e⟩ := ih.1 (by omega)
        exact ⟨i, j, hij, by omega, e⟩
      · rintro ⟨i, j, hij, hj, e1, e2⟩
        have : j ≠ n := fun q => ne (q ▸ e2)
        have := ih.2 ⟨i, j, hij, by omega, e1, e2⟩
        omega
def sameB (a b : MG) : Bool := decide (a.dev = b.dev) && decide (a.seq = b.seq)
theorem sameB_iff {a b : MG} : sameB a b = true ↔ mk2 a = mk2 b := by simp [sameB, mk2]
def clnB (L : List MG) (i : Nat) : Bool := !((decide (0 < i) && sameB (atM L (i - 1)) (atM L i)) || (decide (i + 1 < L.length) && sameB (atM L (i + 1)) (atM L i)))
theorem clnB_num {L : List MG} (h : Asc ordM L) {i : Nat} (hi : i < L.length) : clnB L i = !decide (1 < numC (atM L) (mk2 (atM L i)) L.length) := by
  have key : 1 < numC (atM L) (mk2 (atM L i)) L.length ↔ (0 < i ∧ mk2 (atM L (i - 1)) = mk2 (atM L i)) ∨ (i + 1 < L.length ∧ mk2 (atM L (i + 1)) = mk2 (atM L i)) := by
    rw [numC_two]
    constructor
    · rintro ⟨a, b, hab, hb, ea, eb⟩
      by_cases q : a < i
      · exact .inl ⟨by omega, (mark_mid h (i := a) (j := i - 1) (k := i) (by omega) (by omega) hi ea).trans ea⟩
      · exact .inr ⟨by omega, mark_mid h (i := i) (j := i + 1) (k := b) (by omega) (by omega) hb eb.symm⟩
    · rintro (⟨h0, e⟩ | ⟨h0, e⟩)
      · exact ⟨i - 1, i, by omega, hi, e, rfl⟩
      · exact ⟨i, i + 1, by omega, h0, rfl, e⟩
  unfold clnB
  congr 1
  rw [Bool.eq_iff_iff, decide_eq_true_eq, key]
  simp [sameB_iff]
theorem msgF_seq {m : MG} (h : msgF m = 0) : nameF m.dev = true ∧ 1 ≤ m.seq ∧ m.seq ≤ 1048576 := by
  unfold msgF at h
  cases h1 : nameF m.dev with
  | false => rw [h1] at h; exact absurd (show (110 : Int) = 0 from h) (by decide)
  | true =>
    rw [h1] at h
    cases h2 : numF m.seq with
    | false => rw [h2] at h; exact absurd (show (111 : Int) = 0 from h) (by decide)
    | true =>
      unfold numF at h2
      rw [Bool.and_eq_true, decide_eq_true_eq, decide_eq_true_eq] at h2
      exact ⟨rfl, h2⟩
theorem insM_at {L : List MG} (h : Asc ordM L) {m : MG} {a : Nat} (ha : a ≤ L.length) (h1 : ∀ i, a ≤ i → i < L.length → ordM m (atM L i) < 0) (h2 : a = 0 ∨ ¬ ordM m (atM L (a - 1)) < 0) :
    insM L m = bif decide (0 < a) && eqM (atM L (a - 1)) m then L else L.take a ++ m :: L.drop a := by
  have hasc := insM_asc m h
  by_cases q : 0 < a ∧ atM L (a - 1) = m
  · rw [decide_eq_true q.1, eqM_iff.2 q.2]
    refine Asc.uniq ordM_preC hasc h fun x => insM_mem.trans ⟨?_, .inr⟩
    rintro (rfl | hx)
    · have := atM_mem (L := L) (i := a - 1) (by omega)
      rw [q.2] at this; exact this
    · exact hx
  · have e : (decide (0 < a) && eqM (atM L (a - 1)) m) = false := by
      by_cases z : 0 < a
      · cases z2 : eqM (atM L (a - 1)) m with
        | false => exact Bool.and_false _
        | true => exact absurd ⟨z, eqM_iff.1 z2⟩ q
      · rw [decide_eq_false z]; rfl
    rw [e]
    refine Asc.uniq ordM_preC hasc (Asc.insert (by rw [List.take_append_drop]; exact h) (fun y hy => ?_) (fun y hy => ?_)) fun x => insM_mem.trans ?_
    · obtain ⟨i, hi, rfl⟩ := List.mem_iff_getElem.1 hy
      rw [List.length_take] at hi
      rw [List.getElem_take, ← atM_get (show i < L.length by omega)]
      have b : ¬ ordM m (atM L (a - 1)) < 0 := h2.resolve_left (by omega)
      have ne : ordM m (atM L (a - 1)) ≠ 0 := fun z => q ⟨by omega, (ordM_zero.1 z).symm⟩
      have n := ordM_preC.neg m (atM L (a - 1))
      have n' := ordM_preC.neg (atM L (a - 1)) m
      have lt : ordM (atM L (a - 1)) m < 0 := by omega
      by_cases z : i = a - 1
      · rw [z]; exact lt
      · exact ordM_preC.lt_trans (ascM_at h (show i < a - 1 by omega) (by omega)) lt
    · obtain ⟨i, hi, rfl⟩ := List.mem_iff_getElem.1 hy
      rw [List.length_drop] at hi
      rw [List.getElem_drop, ← atM_get (show a + i < L.length by omega)]
      exact h1 _ (by omega) (by omega)
    · show x = m ∨ x ∈ L ↔ x ∈ L.take a ++ m :: L.drop a
      rw [List.mem_append, List.mem_cons]
      have : x ∈ L ↔ x ∈ L.take a ∨ x ∈ L.drop a := by rw [← List.mem_append, List.take_append_drop]
      rw [this]
      grind
end Go.Eng
namespace Go.Eng
end Go.Eng
namespace Go.Eng
def t30 (nm : Nat → List UInt8) (i : Nat) : List UInt8 := (nm i).take 30
theorem take_m (s : List UInt8) (k : Int) : s.take (Int.toNat (min (s.length : Int) k)) = s.take k.toNat := by
  rcases Int.le_total (s.length : Int) k with h | h
  · rw [Int.min_eq_left h, Int.toNat_natCast, List.take_length, List.take_of_length_le (by omega)]
  · rw [Int.min_eq_right h]
end Go.Eng
namespace Go.Eng
def foldV (n k : Int) : Int := n % 18446744073709551616 % k
def S_fold : Spec
  | [.int .i64 n, .int .i64 k], [] => some (.int .i64 (foldV n k), [], 1 ≤ k ∧ k ≤ 1000000)
  | _, _ => none
def nextV (n : Nat) (v : Nat → Int) (a k : Int) : Int := foldV (bif decide (a < n) then v a.toNat else 0) k
def S_next : Spec
  | [.ptr 0 0, .int .i64 k], [.cells [.view sz n f, .int .i64 a] t] => some (.int .i64 (nextV n (vInt f) a k), [(0, .cells [.view 1 n f, .int .i64 (a + 1)] 27)], t = 27 ∧ sz = 1 ∧ f = intRow (vInt f) ∧ (1 ≤ k ∧ k ≤ 1000000) ∧ (0 ≤ a ∧ a ≤ 4611686018427387904))
  | _, _ => none
def pw (V j : Nat) : Nat := V / 10 ^ j
def dgI (V k : Nat) : Int := 48 + ((V / 10 ^ (6 - k) % 10 : Nat) : Int)
def idRow (V : Nat) (k : Nat) : List AV := [.int .u8 (dgI V k)]
def idV (n : Int) : Nat := 1000000 + (foldV n 1000000).toNat
def id7 (n : Int) : List UInt8 := bytesA 7 (idRow (idV n))
def idF (n : Int) : List UInt8 := id7 n ++ [UInt8.ofNat (48 + (cdF (id7 n)).1).toNat]
def S_id : Spec
  | [.int .i64 n], [] => some (.str (idF n), [], True)
  | _, _ => none
def S_idl (V : Nat) (j : Nat) : St := ⟨[(3, .int .i64 (pw V j : Nat)), (4, .own 0 7), (5, .int .i64 (6 - (j : Int)))], [(0, .row 5 1 7 (fun k => [.int .u8 (bif decide (7 ≤ k + j) then dgI V k else 0)]) false)], 1, []⟩
def L_id (V : Nat) : LSpec := fun st Q => canonIs te 0 [3, 4, 5] st (S_idl V 0) ∧ V < 2000000 ∧
  Q (.exit 0) ⟨[(4, .own 0 7)], [(0, .row 5 1 7 (idRow V) false)], 1, []⟩
theorem foldV_range {k : Int} (h : 1 ≤ k) (n : Int) : 0 ≤ foldV n k ∧ foldV n k < k := by
  unfold foldV
  exact ⟨Int.emod_nonneg _ (by omega), Int.emod_lt_of_pos _ (by omega)⟩
theorem nextV_range {k : Int} (h : 1 ≤ k) (n : Nat) (v : Nat → Int) (a : Int) : 0 ≤ nextV n v a k ∧ nextV n v a k < k := foldV_range h _
theorem cdF_range (s : List UInt8) : 0 ≤ (cdF s).1 ∧ (cdF s).1 ≤ 9 := by
  unfold cdF
  split
  · show 0 ≤ (10 - cdSum s s.length % 10) % 10 ∧ (10 - cdSum s s.length % 10) % 10 ≤ 9
    omega
  · exact ⟨by decide, by decide⟩
theorem id7_len (n : Int) : (id7 n).length = 7 := by simp [id7, bytesA]
theorem idF_len (n : Int) : (idF n).length = 8 := by rw [idF, List.length_append, id7_len]; rfl
theorem dgI_range (V k : Nat) : 48 ≤ dgI V k ∧ dgI V k ≤ 57 := by
  unfold dgI
  have := Nat.mod_lt (V / 10 ^ (6 - k)) (show 0 < 10 by omega)
  omega
end Go.Eng
namespace Go.Eng
theorem u8_to {n : Int} (h0 : 0 ≤ n) (h1 : n < 256) : ((UInt8.ofNat n.toNat).toNat : Int) = n := by
  rw [UInt8.toNat_ofNat']
  have : n.toNat % 2 ^ 8 = n.toNat := Nat.mod_eq_of_lt (by omega)
  omega
theorem id7_dig (n : Int) : (id7 n).all isDig = true := by
  unfold id7 bytesA
  rw [List.all_map, List.all_eq_true]
  intro k _
  have h := dgI_range (idV n) k
  have e := u8_to (n := dgI (idV n) k) (by omega) (by omega)
  show isDig (UInt8.ofNat (dgI (idV n) k).toNat) = true
  unfold isDig
  rw [Bool.and_eq_true, decide_eq_true_eq, decide_eq_true_eq]
  omega
theorem idF_valid (n : Int) : validIDF (idF n) = true := by
  have hc := cdF_range (id7 n)
  have e := u8_to (n := 48 + (cdF (id7 n)).1) (by omega) (by omega)
  have hd : digitsF (idF n) 8 13 = true := by
    unfold digitsF
    rw [idF_len, Bool.and_eq_true]
    refine ⟨rfl, ?_⟩
    unfold idF
    rw [List.all_append, id7_dig, List.all_cons]
    unfold isDig
    rw [Bool.true_and, List.all_nil, Bool.and_true, Bool.and_eq_true, decide_eq_true_eq, decide_eq_true_eq]
    omega
  have ht : (idF n).take 7 = id7 n := by unfold idF; rw [← id7_len n]; exact List.take_left
  have hg : (idF n).getD 7 0 = UInt8.ofNat (48 + (cdF (id7 n)).1).toNat := by
    unfold idF
    rw [List.getD_eq_getElem?_getD, List.getElem?_append_right (by rw [id7_len]; exact Nat.le_refl _), id7_len]
    rfl
  unfold validIDF
  rw [hd, idF_len]
  show decide ((cdF ((idF n).take 7)).1 = (((idF n).getD 7 0).toNat : Int) - 48) = true
  rw [ht, hg, e, decide_eq_true_eq]
  omega
end Go.Eng
namespace Go.Eng
structure IT where
  c : Nat
  h : Nat → RW
  c0 : Nat
  left : List Nat
def outF (i : Int) : List UInt8 := List.getD [[111, 49], [111, 50], [112]] i.toNat []
def S_outlet : Spec
  | [.ptr 0 0], [.cells [.view sz n f, .int .i64 a] t] => some (.str (outF (nextV n (vInt f) a 3)), [(0, .cells [.view 1 n f, .int .i64 (a + 1)] 27)], t = 27 ∧ sz = 1 ∧ f = intRow (vInt f) ∧ (0 ≤ a ∧ a ≤ 4611686018427387000))
  | _, _ => none
def S_product : Spec
  | [.ptr 0 0], [.cells [.view sz n f, .int .i64 a] t] => some (.str (idF (nextV n (vInt f) a 4)), [(0, .cells [.view 1 n f, .int .i64 (a + 1)] 27)], t = 27 ∧ sz = 1 ∧ f = intRow (vInt f) ∧ (0 ≤ a ∧ a ≤ 4611686018427387000))
  | _, _ => none
end Go.Eng
namespace Go.Eng
def S_slotR : Spec
  | [.str o, .str p, .int .i64 per], [] => some (.bool (slotF o p per), [], o.length < 4294967281)
  | _, _ => none
def S_period : Spec
  | [.int .i64 p], [] => some (.bool (decide (0 ≤ p) && decide (p ≤ 5999)), [], True)
  | _, _ => none
structure RX where
  k : Nat
  L : List RW
end Go.Eng
namespace Go.Eng
def S_decR : Spec
  | [.agg [.str o, .str p, .int .i64 per, .str dev, .int .i64 num]], [] => some (.bool (slotF o p per && (nameF dev && numF num)), [], o.length < 4294967281 ∧ dev.length < 4294967281)
  | _, _ => none
def S_textR : Spec
  | [.str a, .str b], [] => some (.int .i64 (cmpS a b), [], True)
  | _, _ => none
def S_numR : Spec
  | [.int .i64 a, .int .i64 b], [] => some (.int .i64 (cmpI a b), [], True)
  | _, _ => none
def S_sameR : Spec
  | [.agg [.str dev, .int .i64 seq, .int .i64 _, .str _, .str _, .int .i64 _, .int .i64 _, .int .i64 _, .int .i64 _, .str _, .str _, .str _, .int .i64 _, .str _, .int .i64 _], .agg [.str dev2, .int .i64 seq2, .int .i64 _, .str _, .str _, .int .i64 _, .int .i64 _, .int .i64 _, .int .i64 _, .str _, .str _, .str _, .int .i64 _, .str _, .int .i64 _]], [] =>
      some (.bool (decide (dev = dev2) && decide (seq = seq2)), [], True)
  | _, _ => none
def eqMs (g h : Nat → MG) : Nat → Bool
  | 0 => true
  | k + 1 => eqMs g h k && eqM (g k) (h k)
def S_sameM : Spec
  | [.view 15 n f, .view 15 m h], [] => some (.bool (decide (n = m) && eqMs (mgOf f) (mgOf h) n), [], n ≤ 1000000 ∧ f = mgRow (mgOf f) ∧ h = mgRow (mgOf h))
  | _, _ => none
def S_sm (g h : Nat → MG) (n k : Nat) : St := ⟨[(0, .view 15 n (mgRow g)), (1, .view 15 n (mgRow h)), (12, .int .i64 n), (13, .int .i64 k)], [], 0, []⟩
def L_sm (g h : Nat → MG) (n : Nat) : LSpec := fun st Q => canonIs te 0 [0, 1, 12, 13] st (S_sm g h n 0) ∧ n ≤ 1000000 ∧
  condP (eqMs g h n) (Q (.exit 0) ⟨[], [], 0, []⟩) (Q .ret ⟨[(4, .bool false)], [], 0, []⟩)
end Go.Eng
namespace Go.Eng
theorem mrgL_set {g : Nat → MG} {n : Nat} {t : Nat → MG} {k : Nat} (e : ∀ x, x ∈ lst t k ↔ x ∈ lst g n) (h : Nat → MG) (m : Nat) : mrgL t k h m = mrgL g n h m :=
  mrgF_congr fun x => by rw [List.mem_append, List.mem_append, e]
theorem eqMs_self (g : Nat → MG) : ∀ n, eqMs g g n = true
  | 0 => rfl
  | n + 1 => by rw [eqMs, eqMs_self g n, eqM_iff.2 rfl]; rfl
theorem sameM_true {X Y : List MG} (e : X = Y) : (decide (X.length = Y.length) && eqMs (atM X) (atM Y) X.length) = true := by
  subst e
  rw [decide_eq_true rfl, eqMs_self]; rfl
end Go.Eng
namespace Go.Eng
def devF (i : Int) : List UInt8 := List.getD [[97], [98], [99]] i.toNat []
def S_device : Spec
  | [.ptr 0 0], [.cells [.view sz n f, .int .i64 a] t] => some (.str (devF (nextV n (vInt f) a 3)), [(0, .cells [.view 1 n f, .int .i64 (a + 1)] 27)], t = 27 ∧ sz = 1 ∧ f = intRow (vInt f) ∧ (0 ≤ a ∧ a ≤ 4611686018427387000))
  | _, _ => none
structure VT.Made (x : VT) : Prop where
  ok : visF x = true
  o : x.o.length ≤ 2
def R_visit : RSpec
  | [.ptr 0 0], [.cells [.view sz n f, .int .i64 a] t], R => t = 27 ∧ sz = 1 ∧ f = intRow (vInt f) ∧ (0 ≤ a ∧ a ≤ 4611686018427386000) ∧
      ∀ (x : VT) (a' : Int), x.Made → (a ≤ a' ∧ a' ≤ a + 7) →
      R (.agg [.str x.o, .str x.p, .int .i64 x.per, .int .i64 x.day, .int .i64 x.st, .int .i64 x.pr, .str x.rep]) [(0, .cells [.view 1 n f, .int .i64 a'] 27)]
  | _, _, _ => False
structure MG.Made (m : MG) : Prop where
  ok : msgF m = 0
  dev : m.dev.length ≤ 1
  o : m.v.o.length ≤ 2
  o' : m.d.o.length ≤ 2
  dd : m.d.dev.length ≤ 1
def R_mmsg : RSpec
  | [.ptr 0 0], [.cells [.view sz n f, .int .i64 a] t], R => t = 27 ∧ sz = 1 ∧ f = intRow (vInt f) ∧ (0 ≤ a ∧ a ≤ 4611686018427385000) ∧
      ∀ (m : MG) (a' : Int), m.Made → (a ≤ a' ∧ a' ≤ a + 10) →
      R (.agg [.str m.dev, .int .i64 m.seq, .int .i64 m.kind, .str m.v.o, .str m.v.p, .int .i64 m.v.per, .int .i64 m.v.day, .int .i64 m.v.st, .int .i64 m.v.pr, .str m.v.rep, .str m.d.o, .str m.d.p, .int .i64 m.d.per, .str m.d.dev, .int .i64 m.d.num]) [(0, .cells [.view 1 n f, .int .i64 a'] 27)]
  | _, _, _ => False
theorem idF4 : ∀ i, i < 4 → ¬ idF 4 = idF (i : Nat) := by decide +kernel
theorem devF_ok : ∀ i, i < 3 → nameF (List.getD [[97], [98], [99]] i []) = true ∧ (List.getD [[97], [98], [99]] i ([] : List UInt8)).length ≤ 1 := by decide +kernel
end Go.Eng
namespace Go.Eng
structure MgS where
  c : Nat
  g : Nat → MG
  a : Int
def MG.put (g : Nat → MG) (k : Nat) (r : MG) (i : Nat) : MG := if i < k then g i else r
def S_msgs (n : Nat) (v : Nat → Int) (N : Int) (i : MgS) : St := ⟨[(0, .ptr 0 0), (5, .own 1 i.c), (9, .int .i64 N), (10, .int .i64 i.c)],
  [(0, .cells [.view 1 n (intRow v), .int .i64 i.a] 27), (1, .row 40 15 i.c (mgRow i.g) false)], 2, []⟩
def L_msgs (n : Nat) (v : Nat → Int) (a N : Int) : LSpec := fun st Q => canonIs te 1 [0, 5, 9, 10] (ownNil 5 40 15 st) (S_msgs n v N ⟨0, fun _ => default, a⟩) ∧ (0 ≤ N ∧ N ≤ 100) ∧ (0 ≤ a ∧ a ≤ 4611686018427375000) ∧
  ∀ i : MgS, i.c = N.toNat → (a ≤ i.a ∧ i.a ≤ a + 10 * i.c) → (∀ j, j < i.c → (i.g j).Made) → Q (.exit 0) ⟨[(5, .own 1 i.c)], [(0, .cells [.view 1 n (intRow v), .int .i64 i.a] 27), (1, .row 40 15 i.c (mgRow i.g) false)], 2, []⟩
def R_msgs : RSpec
  | [.ptr 0 0, .int .i64 most], [.cells [.view sz n f, .int .i64 a] t], R => t = 27 ∧ sz = 1 ∧ f = intRow (vInt f) ∧ (0 ≤ a ∧ a ≤ 4611686018427370000) ∧ (0 ≤ most ∧ most ≤ 90) ∧
      ∀ (c : Nat) (g : Nat → MG) (a' : Int), c ≤ most.toNat → (a ≤ a' ∧ a' ≤ a + 1000) → (∀ j, j < c → (g j).Made) →
      R (.own 1 c) [(0, .cells [.view 1 n f, .int .i64 a'] 27), (1, .row 40 15 c (mgRow g) false)]
  | _, _, _ => False
def cutM (g : Nat → MG) (i : Nat) : MG := ⟨(g i).dev.take 30, (g i).seq, (g i).kind, ⟨(g i).v.o.take 30, (g i).v.p.take 30, (g i).v.per, (g i).v.day, (g i).v.st, (g i).v.pr, (g i).v.rep.take 30⟩, ⟨(g i).d.o.take 30, (g i).d.p.take 30, (g i).d.per, (g i).d.dev.take 30, (g i).d.num⟩⟩
def S_rw11 (g : Nat → MG) (n k : Nat) : St := ⟨[(3, .own 0 k), (10, .view 15 n (mgRow g)), (11, .int .i64 n), (12, .int .i64 k)], [(0, .row 40 15 k (mgRow (cutM g)) false)], 1, []⟩
def L_rw11 (g : Nat → MG) (n : Nat) : LSpec := fun st Q => canonIs te 0 [3, 10, 11, 12] (ownNil 3 40 15 st) (S_rw11 g n 0) ∧ n ≤ 12 ∧ Q (.exit 0) ⟨[(3, .own 0 n)], [(0, .row 40 15 n (mgRow (cutM g)) false)], 1, []⟩
def S_raw11 : Spec
  | [.view 15 n f], [] => some (.view 15 (min n 12) (mgRow (cutM (mgOf f))), [], f = mgRow (mgOf f))
  | _, _ => none
structure RE (f : Nat → List AV) (n : Nat) : Prop where
  eq : ∀ i, i < n → f i = mgRow (mgOf f) i
structure RM (f : Nat → List AV) (n : Nat) : Prop where
  eq : ∀ i, i < n → f i = mgRow (mgOf f) i
  sm : ∀ i, i < n → (mgOf f i).Sm
def R_sp11 : RSpec
  | [.ptr 0 0], [.cells [.view sz n f, .int .i64 a] t], R => t = 27 ∧ sz = 1 ∧ f = intRow (vInt f) ∧ (0 ≤ a ∧ a ≤ 4611686018427380000) ∧
      ∀ (m : MG) (a' : Int), m.Sm → (a ≤ a' ∧ a' ≤ a + 12) →
      R (.agg [.str m.dev, .int .i64 m.seq, .int .i64 m.kind, .str m.v.o, .str m.v.p, .int .i64 m.v.per, .int .i64 m.v.day, .int .i64 m.v.st, .int .i64 m.v.pr, .str m.v.rep, .str m.d.o, .str m.d.p, .int .i64 m.d.per, .str m.d.dev, .int .i64 m.d.num]) [(0, .cells [.view 1 n f, .int .i64 a'] 27)]
  | _, _, _ => False
def R_list : RSpec
  | [.ptr 0 0], [.cells [.view sz n f, .int .i64 a] t], R => t = 27 ∧ sz = 1 ∧ f = intRow (vInt f) ∧ (0 ≤ a ∧ a ≤ 4611686018427360000) ∧
      ∀ (c : Nat) (g : Nat → MG) (a' : Int), c ≤ 12 → (a ≤ a' ∧ a' ≤ a + 1100) → (∀ j, j < c → (g j).Sm) →
      R (.view 15 c (mgRow g)) [(0, .cells [.view 1 n f, .int .i64 a'] 27)]
  | _, _, _ => False
def R_turned : RSpec
  | [.ptr 0 0, .view 15 c q], [.cells [.view sz n f, .int .i64 a] t], R => t = 27 ∧ sz = 1 ∧ f = intRow (vInt f) ∧ (0 ≤ a ∧ a ≤ 4611686018427360000) ∧ q = mgRow (mgOf q) ∧ c ≤ 100 ∧
      ∀ (k : Nat) (h : Nat → MG) (a' : Int), k ≤ 2 * c → (a ≤ a' ∧ a' ≤ a + 200) → (∀ x, x ∈ lst h k ↔ x ∈ lst (mgOf q) c) →
      R (.view 15 k (mgRow h)) [(0, .cells [.view 1 n f, .int .i64 a'] 27)]
  | _, _, _ => False
def S_awake11 : Spec
  | [], [] => some (.bool true, [], True)
  | _, _ => none
def S_resolveO : Spec
  | [.own 0 n, .str o, .str p, .int .i64 per], [.row _ 15 m f _] =>
      some (.tuple [.agg [.str (resF (mgOf f) n o p per).1.o, .str (resF (mgOf f) n o p per).1.p, .int .i64 (resF (mgOf f) n o p per).1.per, .int .i64 (resF (mgOf f) n o p per).1.day, .int .i64 (resF (mgOf f) n o p per).1.st, .int .i64 (resF (mgOf f) n o p per).1.pr, .str (resF (mgOf f) n o p per).1.rep], .int .i64 (resF (mgOf f) n o p per).2], [],
        n = m ∧ n ≤ 100000 ∧ RM f n)
  | _, _ => none
def S_mrgV : Spec
  | [.view 15 n f, .view 15 m h], [] => some (.view 15 (mrgL (mgOf f) n (mgOf h) m).length (mgRow (atM (mrgL (mgOf f) n (mgOf h) m))), [],
      n ≤ 100000 ∧ m ≤ 100000 ∧ f = mgRow (mgOf f) ∧ h = mgRow (mgOf h) ∧ (∀ i, i < n → (mgOf f i).Sm) ∧ ∀ i, i < m → (mgOf h i).Sm)
  | _, _ => none
end Go.Eng
