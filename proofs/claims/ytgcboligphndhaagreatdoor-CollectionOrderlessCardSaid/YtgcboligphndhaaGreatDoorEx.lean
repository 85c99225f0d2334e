/- collection.Candidates. -/
import Derived.Test.YtgcboligphndhaaGreatDoorEs
import Derived.Test.YtgcboligphndhaaGreatDoorEw
import Derived.Test.YtgcboligphndhaaGreatDoorEt
import Derived.Test.YtgcboligphndhaaGreatDoorEp
import Derived.Test.YtgcboligphndhaaGreatDoorEv
namespace Go.Eng
open Go.Proofs Go.RowKit
variable {C : Ctx} [C.Loose]
set_option maxRecDepth 20000
theorem nf_visitR (o p : List UInt8) (per day st pr : Int) (rep : List UInt8) (R : AV → List (Nat × AObj) → Prop) : wpFn te [(130, .det S_slotR), (162, .det S_validID)] [] 0 Tryz.f128 [.agg [.str o, .str p, .int .i64 per, .int .i64 day, .int .i64 st, .int .i64 pr, .str rep]] [] R = (letI z1 := R (.bool false) []; letI z4 := (condP (decide (pr = (0 : Int))) (R (.bool (decide (rep = []))) []) z1); letI z3 := (condP (decide ((1 : Int) ≤ pr)) (condP (decide (pr ≤ (1099511627776 : Int))) (R (.bool (decide (rep = []))) []) z1) z1); letI z2 := (condP (decide (st = (5 : Int))) (condP (decide ((1 : Int) ≤ pr)) (condP (decide (pr ≤ (1099511627776 : Int))) (True ∧ condP (validIDF rep) (R (.bool !decide (rep = p)) []) z1) z1) z1) z1); letI z0 := (condP (decide (st = (3 : Int))) (condP (decide (st = (3 : Int))) z4 z2) (condP (decide (st = (4 : Int))) z4 z2)); List.length o < 4294967281 ∧ condP (!slotF o p per) z1 (condP (decide (day < (0 : Int))) z1 (condP (decide ((182621 : Int) ≤ day)) z1 (condP (decide (st = (1 : Int))) (condP (decide (st = (1 : Int))) z3 z0) (condP (decide (st = (2 : Int))) z3 z0))))) := by kernel_rfl
theorem nf_decR (o p : List UInt8) (per : Int) (dev : List UInt8) (num : Int) (R : AV → List (Nat × AObj) → Prop) : wpFn te [(130, .det S_slotR), (75, .det S_nameR)] [] 0 Tryz.f129 [.agg [.str o, .str p, .int .i64 per, .str dev, .int .i64 num]] [] R = (List.length o < 4294967281 ∧ condP (slotF o p per) (List.length dev ≤ 9223372036854775806 ∧ condP (nameF dev) (condP (decide ((1 : Int) ≤ num)) (R (.bool (decide (num ≤ (1048576 : Int)))) []) (R (.bool false) [])) (R (.bool false) [])) (R (.bool false) [])) := by kernel_rfl
theorem nf_msgR (m : MG) (R : AV → List (Nat × AObj) → Prop) : wpFn te [(75, .det S_nameR), (128, .det S_visit), (129, .det S_decR)] [] 0 Tryz.f76 [.agg [.str m.dev, .int .i64 m.seq, .int .i64 m.kind, .str m.v.o, .str m.v.p, .int .i64 m.v.per, .int .i64 m.v.day, .int .i64 m.v.st, .int .i64 m.v.pr, .str m.v.rep, .str m.d.o, .str m.d.p, .int .i64 m.d.per, .str m.d.dev, .int .i64 m.d.num]] [] R = (letI z5 := (MG.kind m = (2 : Int)); letI z4 := (MG.kind m = (1 : Int)); letI z1 := (condP (decide z4) (condP (!(decide (DT.o (MG.d m) = []) && (decide (DT.p (MG.d m) = []) && (decide (DT.per (MG.d m) = (0 : Int)) && (decide (DT.dev (MG.d m) = []) && decide (DT.num (MG.d m) = (0 : Int))))))) (R (.int .i64 114) []) (R (.int .i64 0) [])) (R (.int .i64 0) [])); letI z2 := (condP (decide z5) ((List.length (DT.o (MG.d m)) < 4294967281 ∧ List.length (DT.dev (MG.d m)) < 4294967281) ∧ condP (!(slotF (DT.o (MG.d m)) (DT.p (MG.d m)) (DT.per (MG.d m)) && (nameF (DT.dev (MG.d m)) && numF (DT.num (MG.d m))))) (R (.int .i64 114) []) z1) z1); letI z0 := (condP (decide z5) (condP (!(decide (VT.o (MG.v m) = []) && (decide (VT.p (MG.v m) = []) && (decide (VT.per (MG.v m) = (0 : Int)) && (decide (VT.day (MG.v m) = (0 : Int)) && (decide (VT.st (MG.v m) = (0 : Int)) && (decide (VT.pr (MG.v m) = (0 : Int)) && decide (VT.rep (MG.v m) = [])))))))) (R (.int .i64 113) []) z2) z2); letI z3 := (condP (decide z4) (List.length (VT.o (MG.v m)) < 4294967281 ∧ condP (!visF (VT.mk (VT.o (MG.v m)) (VT.p (MG.v m)) (VT.per (MG.v m)) (VT.day (MG.v m)) (VT.st (MG.v m)) (VT.pr (MG.v m)) (VT.rep (MG.v m)))) (R (.int .i64 113) []) z0) z0); List.length (MG.dev m) ≤ 9223372036854775806 ∧ condP (!nameF (MG.dev m)) (R (.int .i64 110) []) (condP (decide (MG.seq m < (1 : Int))) (R (.int .i64 111) []) (condP (decide ((1048576 : Int) < MG.seq m)) (R (.int .i64 111) []) (condP (!decide z4) (condP (!decide z5) (R (.int .i64 112) []) z3) z3)))) := by kernel_rfl
theorem nf_textR (a b : List UInt8) (R : AV → List (Nat × AObj) → Prop) : wpFn te [] [] 0 Tryz.f157 [.str a, .str b] [] R = (condP (Op.bytesLess a b) (R (.int .i64 (-1 : Int)) []) (condP (!(Op.bytesLess a b || decide (a = b))) (R (.int .i64 1) []) (R (.int .i64 0) []))) := by kernel_rfl
theorem nf_numR (a b : Int) (R : AV → List (Nat × AObj) → Prop) : wpFn te [] [] 0 Tryz.f158 [.int .i64 a, .int .i64 b] [] R = (condP (decide (a < b)) (R (.int .i64 (-1 : Int)) []) (condP (decide (b < a)) (R (.int .i64 1) []) (R (.int .i64 0) []))) := by kernel_rfl
theorem nf_sameR (m x : MG) (R : AV → List (Nat × AObj) → Prop) : wpFn te [] [] 0 Tryz.f65 [.agg [.str m.dev, .int .i64 m.seq, .int .i64 m.kind, .str m.v.o, .str m.v.p, .int .i64 m.v.per, .int .i64 m.v.day, .int .i64 m.v.st, .int .i64 m.v.pr, .str m.v.rep, .str m.d.o, .str m.d.p, .int .i64 m.d.per, .str m.d.dev, .int .i64 m.d.num], .agg [.str x.dev, .int .i64 x.seq, .int .i64 x.kind, .str x.v.o, .str x.v.p, .int .i64 x.v.per, .int .i64 x.v.day, .int .i64 x.v.st, .int .i64 x.v.pr, .str x.v.rep, .str x.d.o, .str x.d.p, .int .i64 x.d.per, .str x.d.dev, .int .i64 x.d.num]] [] R = (condP (decide (MG.dev m = MG.dev x)) (R (.bool (decide (MG.seq m = MG.seq x))) []) (R (.bool false) [])) := by kernel_rfl
theorem nf_sm (g h : Nat → MG) (n m : Nat) (R : AV → List (Nat × AObj) → Prop) : wpFn te [] [(4, L_sm g h n)] 0 Tryz.f25 [.view 15 n (mgRow g), .view 15 m (mgRow h)] [] R = (condP (!decide ((↑n : Int) = (↑m : Int))) (R (.bool false) []) (some (St.mk [(0, .view 15 n (mgRow g)), (1, .view 15 m (mgRow h)), (12, .int .i64 (↑n : Int)), (13, .int .i64 0)] [] 0 []) = some (St.mk [(0, .view 15 n (mgRow g)), (1, .view 15 n (mgRow h)), (12, .int .i64 (↑n : Int)), (13, .int .i64 (↑0 : Int))] [] 0 []) ∧ n ≤ 1000000 ∧ condP (eqMs g h n) (R (.bool true) []) (R (.bool false) []))) := by kernel_rfl
theorem nf_sm_round (g h : Nat → MG) (n k : Nat) (P : Nat → Prop) (R : Exit → St → Prop) : roundP ⟨te, [], [], 0, 26, 0⟩ (loopB Tryz.f25 4) [0, 1, 12, 13] [] [4] (S_sm g h n) P R (S_sm g h n k) = (letI z0 := (Int.toNat (↑k : Int)); condP (decide ((↑k : Int) < (↑n : Int))) (((0 : Int) ≤ (↑k : Int) ∧ (↑k : Int) < (↑n : Int) ∧ 15 = 15) ∧ ((0 : Int) ≤ (↑k : Int) ∧ (↑k : Int) < (↑n : Int) ∧ 15 = 15) ∧ condP (!(decide (MG.dev (g z0) = MG.dev (h z0)) && (decide (MG.seq (g z0) = MG.seq (h z0)) && (decide (MG.kind (g z0) = MG.kind (h z0)) && (decide (VT.o (MG.v (g z0)) = VT.o (MG.v (h z0))) && (decide (VT.p (MG.v (g z0)) = VT.p (MG.v (h z0))) && (decide (VT.per (MG.v (g z0)) = VT.per (MG.v (h z0))) && (decide (VT.day (MG.v (g z0)) = VT.day (MG.v (h z0))) && (decide (VT.st (MG.v (g z0)) = VT.st (MG.v (h z0))) && (decide (VT.pr (MG.v (g z0)) = VT.pr (MG.v (h z0))) && decide (VT.rep (MG.v (g z0)) = VT.rep (MG.v (h z0)))))))) && (decide (DT.o (MG.d (g z0)) = DT.o (MG.d (h z0))) && (decide (DT.p (MG.d (g z0)) = DT.p (MG.d (h z0))) && (decide (DT.per (MG.d (g z0)) = DT.per (MG.d (h z0))) && (decide (DT.dev (MG.d (g z0)) = DT.dev (MG.d (h z0))) && decide (DT.num (MG.d (g z0)) = DT.num (MG.d (h z0)))))))))))) (R .ret (St.mk [(4, .bool false)] [] 0 [])) (inR .i64 ((↑k : Int) + (1 : Int)) ∧ ∃ (i' : Nat), some (St.mk [(0, .view 15 n (mgRow g)), (1, .view 15 n (mgRow h)), (12, .int .i64 (↑n : Int)), (13, .int .i64 ((↑k : Int) + (1 : Int)))] [] 0 []) = some (St.mk [(0, .view 15 n (mgRow g)), (1, .view 15 n (mgRow h)), (12, .int .i64 (↑n : Int)), (13, .int .i64 (↑i' : Int))] [] 0 []) ∧ P i')) (R (.exit 0) (St.mk [] [] 0 []))) := by kernel_rfl
theorem visitR_ok (hP : C.P = Tryz.prog) : SpecOK C 128 S_visit := by
  rintro args objs U Os vc h hvc
  unfold S_visit at h
  split at h <;> simp only [Option.some.injEq, Prod.mk.injEq, reduceCtorEq] at h
  rename_i o p per day st pr rep
  obtain ⟨rfl, rfl, rfl⟩ := h
  refine SpecOK.wp0 (prg hP) [(130, .det S_slotR), (162, .det S_validID)] 0 (.cons (slotR_ok hP) (.cons (validIDR_ok hP) .nil)) (hP ▸ Tryz.func128) rfl rfl rfl ?_
  rw [nf_visitR]
  refine ⟨hvc, condP_not (fun h1 => ?_) (fun h1 => condP_dec (fun h2 => ?_) (fun h2 => condP_dec (fun h3 => ?_) (fun h3 => ?_)))⟩
  · unfold visF; simp [h1]
  · unfold visF; simp [show ¬ 0 ≤ day by omega]
  · unfold visF; simp [show ¬ day ≤ 182620 by omega]
  have hv : visF ⟨o, p, per, day, st, pr, rep⟩ = (bif decide (st = 1) || decide (st = 2) then decide (1 ≤ pr) && decide (pr ≤ 1099511627776) && decide (rep = [])
    else bif decide (st = 3) || decide (st = 4) then decide (pr = 0) && decide (rep = [])
    else bif decide (st = 5) then decide (1 ≤ pr) && decide (pr ≤ 1099511627776) && validIDF rep && !decide (rep = p) else false) := by
    unfold visF; simp only [h1, Bool.true_and, decide_eq_true (show 0 ≤ day by omega), decide_eq_true (show day ≤ 182620 by omega)]
  rw [hv]
  clear hv h1 h2 h3
  by_cases s1 : st = 1
  · subst s1
    generalize decide (1 ≤ pr) = b1, decide (pr ≤ 1099511627776) = b2, decide (pr = 0) = b3, decide (rep = p) = b4, decide (rep = []) = b5, validIDF rep = b6
    cases b1 <;> cases b2 <;> exact ⟨rfl, rfl⟩
  by_cases s2 : st = 2
  · subst s2
    generalize decide (1 ≤ pr) = b1, decide (pr ≤ 1099511627776) = b2, decide (pr = 0) = b3, decide (rep = p) = b4, decide (rep = []) = b5, validIDF rep = b6
    cases b1 <;> cases b2 <;> exact ⟨rfl, rfl⟩
  by_cases s3 : st = 3
  · subst s3
    generalize decide (1 ≤ pr) = b1, decide (pr ≤ 1099511627776) = b2, decide (pr = 0) = b3, decide (rep = p) = b4, decide (rep = []) = b5, validIDF rep = b6
    cases b3 <;> exact ⟨rfl, rfl⟩
  by_cases s4 : st = 4
  · subst s4
    generalize decide (1 ≤ pr) = b1, decide (pr ≤ 1099511627776) = b2, decide (pr = 0) = b3, decide (rep = p) = b4, decide (rep = []) = b5, validIDF rep = b6
    cases b3 <;> exact ⟨rfl, rfl⟩
  by_cases s5 : st = 5
  · subst s5
    generalize decide (1 ≤ pr) = b1, decide (pr ≤ 1099511627776) = b2, decide (pr = 0) = b3, decide (rep = p) = b4, decide (rep = []) = b5, validIDF rep = b6
    cases b1 <;> cases b2 <;> cases b6 <;> first | exact ⟨rfl, rfl⟩ | exact ⟨trivial, rfl, rfl⟩
  rw [decide_eq_false s1, decide_eq_false s2, decide_eq_false s3, decide_eq_false s4, decide_eq_false s5]
  exact ⟨rfl, rfl⟩
theorem decR_ok (hP : C.P = Tryz.prog) : SpecOK C 129 S_decR := by
  rintro args objs U Os vc h hvc
  unfold S_decR at h
  split at h <;> simp only [Option.some.injEq, Prod.mk.injEq, reduceCtorEq] at h
  rename_i o p per dev num
  obtain ⟨rfl, rfl, rfl⟩ := h
  refine SpecOK.wp0 (prg hP) [(130, .det S_slotR), (75, .det S_nameR)] 0 (.cons (slotR_ok hP) (.cons (nameR_ok hP) .nil)) (hP ▸ Tryz.func129) rfl rfl rfl ?_
  rw [nf_decR]
  unfold numF
  generalize slotF o p per = b1, nameF dev = b2, decide (1 ≤ num) = b3, decide (num ≤ 1048576) = b4
  refine ⟨hvc.1, ?_⟩
  cases b1
  · exact ⟨rfl, rfl⟩
  refine ⟨by omega, ?_⟩
  cases b2 <;> cases b3 <;> exact ⟨rfl, rfl⟩
theorem msgR_ok (hP : C.P = Tryz.prog) : SpecOK C 76 S_msg := by
  rintro args objs U Os vc h hvc
  unfold S_msg at h
  split at h <;> simp only [Option.some.injEq, Prod.mk.injEq, reduceCtorEq] at h
  rename_i dev seq kind o p per day st pr rep o2 p2 per2 dev2 num
  obtain ⟨rfl, rfl, rfl⟩ := h
  refine SpecOK.wp0 (prg hP) [(75, .det S_nameR), (128, .det S_visit), (129, .det S_decR)] 0 (.cons (nameR_ok hP) (.cons (visitR_ok hP) (.cons (decR_ok hP) .nil))) (hP ▸ Tryz.func76) rfl rfl rfl ?_
  have nf := fun R => nf_msgR ⟨dev, seq, kind, ⟨o, p, per, day, st, pr, rep⟩, ⟨o2, p2, per2, dev2, num⟩⟩ R
  refine (nf _).mpr ?_
  clear nf
  obtain ⟨l1, l2, l3, l4⟩ := hvc
  unfold msgF VT.nil DT.nil
  dsimp only
  generalize (decide (o = []) && (decide (p = []) && (decide (per = 0) && (decide (day = 0) && (decide (st = 0) && (decide (pr = 0) && decide (rep = []))))))) = vn
  generalize (decide (o2 = []) && (decide (p2 = []) && (decide (per2 = 0) && (decide (dev2 = []) && decide (num = 0))))) = dn
  generalize nameF dev = b1, visF ⟨o, p, per, day, st, pr, rep⟩ = b3, slotF o2 p2 per2 = b4, nameF dev2 = b5, numF num = b6
  refine ⟨by omega, ?_⟩
  cases b1
  · exact ⟨rfl, rfl⟩
  by_cases s1 : seq < 1
  · rw [show numF seq = false by unfold numF; rw [decide_eq_false (show ¬ 1 ≤ seq by omega)]; rfl, decide_eq_true s1]; exact ⟨rfl, rfl⟩
  by_cases s2 : 1048576 < seq
  · rw [show numF seq = false by unfold numF; rw [decide_eq_false (show ¬ seq ≤ 1048576 by omega), Bool.and_false], decide_eq_false s1, decide_eq_true s2]; exact ⟨rfl, rfl⟩
  rw [show numF seq = true by unfold numF; rw [decide_eq_true (show 1 ≤ seq by omega), decide_eq_true (show seq ≤ 1048576 by omega)]; rfl, decide_eq_false s1, decide_eq_false s2]
  by_cases k1 : kind = 1
  · subst k1
    refine ⟨l2, ?_⟩
    cases b3 <;> cases dn <;> exact ⟨rfl, rfl⟩
  by_cases k2 : kind = 2
  · subst k2
    cases vn
    · exact ⟨rfl, rfl⟩
    refine ⟨⟨l3, l4⟩, ?_⟩
    cases b4 <;> cases b5 <;> cases b6 <;> exact ⟨rfl, rfl⟩
  rw [decide_eq_false k1, decide_eq_false k2]
  exact ⟨rfl, rfl⟩
theorem textR_ok (hP : C.P = Tryz.prog) : SpecOK C 157 S_textR := by
  have _ : C.Loose := inferInstance
  rintro args objs U Os vc h hvc
  unfold S_textR at h
  split at h <;> simp only [Option.some.injEq, Prod.mk.injEq, reduceCtorEq] at h
  rename_i a b
  obtain ⟨rfl, rfl, rfl⟩ := h
  refine SpecOK.wp0 (prg hP) [] 0 .nil (hP ▸ Tryz.func157) rfl rfl rfl ?_
  rw [nf_textR]
  rcases cmpS_val a b with ⟨q, e⟩ | ⟨q, e⟩ | ⟨q, e⟩
  · rw [e, q]; exact ⟨rfl, rfl⟩
  · subst q
    rw [e, bl_self, decide_eq_true rfl]; exact ⟨rfl, rfl⟩
  · have n1 : Op.bytesLess a b = false := by
      cases z : Op.bytesLess a b with
      | false => rfl
      | true => have := cmpS_neg.2 z; omega
    have n2 : decide (a = b) = false := decide_eq_false fun z => by have := cmpS_zero.2 z; omega
    rw [e, n1, n2]; exact ⟨rfl, rfl⟩
theorem numR_ok (hP : C.P = Tryz.prog) : SpecOK C 158 S_numR := by
  have _ : C.Loose := inferInstance
  rintro args objs U Os vc h hvc
  unfold S_numR at h
  split at h <;> simp only [Option.some.injEq, Prod.mk.injEq, reduceCtorEq] at h
  rename_i a b
  obtain ⟨rfl, rfl, rfl⟩ := h
  refine SpecOK.wp0 (prg hP) [] 0 .nil (hP ▸ Tryz.func158) rfl rfl rfl ?_
  rw [nf_numR]
  have e := cmpI_val a b
  refine condP_dec (fun q => ?_) (fun q => condP_dec (fun q2 => ?_) (fun q2 => ?_))
  · rw [show cmpI a b = -1 by omega]; exact ⟨rfl, rfl⟩
  · rw [show cmpI a b = 1 by omega]; exact ⟨rfl, rfl⟩
  · rw [show cmpI a b = 0 by omega]; exact ⟨rfl, rfl⟩
theorem sameR_ok (hP : C.P = Tryz.prog) : SpecOK C 65 S_sameR := by
  have _ : C.Loose := inferInstance
  rintro args objs U Os vc h hvc
  unfold S_sameR at h
  split at h <;> simp only [Option.some.injEq, Prod.mk.injEq, reduceCtorEq] at h
  rename_i dev seq kind o p per day st pr rep o2 p2 per2 dev2 num dev' seq' kind' o' p' per' day' st' pr' rep' o2' p2' per2' dev2' num'
  obtain ⟨rfl, rfl, rfl⟩ := h
  refine SpecOK.wp0 (prg hP) [] 0 .nil (hP ▸ Tryz.func65) rfl rfl rfl ?_
  refine (nf_sameR ⟨dev, seq, kind, ⟨o, p, per, day, st, pr, rep⟩, ⟨o2, p2, per2, dev2, num⟩⟩ ⟨dev', seq', kind', ⟨o', p', per', day', st', pr', rep'⟩, ⟨o2', p2', per2', dev2', num'⟩⟩ _).mpr ?_
  exact condP_intro (fun h => by rw [h]; exact ⟨rfl, rfl⟩) (fun h => by rw [h]; exact ⟨rfl, rfl⟩)
theorem eqMs_stop {g h : Nat → MG} {k : Nat} (e : eqMs g h (k + 1) = false) : ∀ n, k < n → eqMs g h n = false
  | 0, hn => by omega
  | n + 1, hn => by
    by_cases q : k = n
    · subst q; exact e
    · rw [eqMs, eqMs_stop e n (by omega), Bool.false_and]
theorem sm_loop (hP : C.P = Tryz.prog) (g h : Nat → MG) (n : Nat) : LoopOK C 0 26 (loopC Tryz.f25 4) (L_sm g h n) := by
  have _ : C.Loose := inferInstance
  rintro st Q ⟨h0, hn, hQ⟩
  have hR := condP_elim hQ
  refine LoopOK.mk (prg hP) [] 0 .nil [0, 1, 12, 13] [] [4] (S_sm g h n) (fun k => k ≤ n ∧ eqMs g h k = true) (fun k => n - k) 0 ⟨Nat.zero_le _, rfl⟩ h0 (fun k hk => ?_)
  obtain ⟨hkn, hok⟩ := hk
  rw [nf_sm_round, Int.toNat_natCast]
  refine condP_dec (fun h1 => ?_) (fun h1 => ?_)
  · refine ⟨⟨by omega, by omega, rfl⟩, ⟨by omega, by omega, rfl⟩, condP_not (fun h2 => hR.2 (eqMs_stop (k := k) (by rw [eqMs, show eqM (g k) (h k) = false from h2, Bool.and_false]) n (by omega))) (fun h2 => ⟨by simp only [inR]; omega, k + 1, rfl, ⟨by omega, ?_⟩, by omega⟩)⟩
    rw [eqMs, hok]; exact h2
  · have : k = n := by omega
    subst this
    exact hR.1 hok
theorem sameM_ok (hP : C.P = Tryz.prog) : SpecOK C 25 S_sameM := by
  rintro args objs U Os vc h hvc
  unfold S_sameM at h
  split at h <;> simp only [Option.some.injEq, Prod.mk.injEq, reduceCtorEq] at h
  rename_i n f m h'
  obtain ⟨rfl, rfl, rfl⟩ := h
  obtain ⟨hn, hf, hh⟩ := hvc
  generalize mgOf f = g at *
  generalize mgOf h' = g' at *
  subst hf; subst hh
  refine SpecOK.wpL (prg hP) [] [(4, L_sm g g' n)] 0 .nil (hP ▸ Tryz.func25) rfl rfl rfl [(loopC Tryz.f25 4, L_sm g g' n)] (by kernel_rfl) ⟨sm_loop hP g g' n, trivial⟩ ?_
  rw [nf_sm]
  refine condP_ndec (fun h1 => ?_) (fun h1 => ?_)
  · rw [decide_eq_false (show ¬ n = m by omega)]; exact ⟨rfl, rfl⟩
  · have : n = m := by omega
    subst this
    rw [decide_eq_true rfl]
    exact ⟨rfl, hn, condP_intro (fun h2 => by rw [h2]; exact ⟨rfl, rfl⟩) (fun h2 => by rw [h2]; exact ⟨rfl, rfl⟩)⟩
end Go.Eng
namespace Go.Eng
open Go.Proofs Go.RowKit
variable {C : Ctx} [C.Loose]
set_option maxRecDepth 20000
theorem nf_order (m x : MG) (R : AV → List (Nat × AObj) → Prop) : wpFn te [(157, .det S_textR), (158, .det S_numR)] [] 16 Tryz.f117 [.agg [.str m.dev, .int .i64 m.seq, .int .i64 m.kind, .str m.v.o, .str m.v.p, .int .i64 m.v.per, .int .i64 m.v.day, .int .i64 m.v.st, .int .i64 m.v.pr, .str m.v.rep, .str m.d.o, .str m.d.p, .int .i64 m.d.per, .str m.d.dev, .int .i64 m.d.num], .agg [.str x.dev, .int .i64 x.seq, .int .i64 x.kind, .str x.v.o, .str x.v.p, .int .i64 x.v.per, .int .i64 x.v.day, .int .i64 x.v.st, .int .i64 x.v.pr, .str x.v.rep, .str x.d.o, .str x.d.p, .int .i64 x.d.per, .str x.d.dev, .int .i64 x.d.num]] [] R = (letI z0 := [cmpS (MG.dev m) (MG.dev x), cmpI (MG.seq m) (MG.seq x), cmpI (MG.kind m) (MG.kind x), cmpS (VT.o (MG.v m)) (VT.o (MG.v x)), cmpS (VT.p (MG.v m)) (VT.p (MG.v x)), cmpI (VT.per (MG.v m)) (VT.per (MG.v x)), cmpI (VT.day (MG.v m)) (VT.day (MG.v x)), cmpI (VT.st (MG.v m)) (VT.st (MG.v x)), cmpI (VT.pr (MG.v m)) (VT.pr (MG.v x)), cmpS (VT.rep (MG.v m)) (VT.rep (MG.v x)), cmpS (DT.o (MG.d m)) (DT.o (MG.d x)), cmpS (DT.p (MG.d m)) (DT.p (MG.d x)), cmpI (DT.per (MG.d m)) (DT.per (MG.d x)), cmpS (DT.dev (MG.d m)) (DT.dev (MG.d x)), cmpI (DT.num (MG.d m)) (DT.num (MG.d x))]; True ∧ True ∧ True ∧ True ∧ True ∧ True ∧ True ∧ True ∧ True ∧ True ∧ True ∧ True ∧ True ∧ True ∧ True ∧ (15 ≤ 16777216 ∧ 1 = 1 ∧ 15 ≤ 9223372036854775807) ∧ ((0 : Int) ≤ (0 : Int) ∧ (0 : Int) < (↑15 : Int)) ∧ (0 < 15 ∧ 1 = 1) ∧ condP (!decide (List.getD z0 0 (0 : Int) = (0 : Int))) (R (.int .i64 (List.getD z0 0 (0 : Int))) []) (inR .i64 ((0 : Int) + (1 : Int)) ∧ ((0 : Int) ≤ (0 : Int) + (1 : Int) ∧ (0 : Int) + (1 : Int) < (↑15 : Int)) ∧ (1 < 15 ∧ 1 = 1) ∧ condP (!decide (List.getD z0 1 (0 : Int) = (0 : Int))) (R (.int .i64 (List.getD z0 1 (0 : Int))) []) (inR .i64 ((0 : Int) + (1 : Int) + (1 : Int)) ∧ ((0 : Int) ≤ (0 : Int) + (1 : Int) + (1 : Int) ∧ (0 : Int) + (1 : Int) + (1 : Int) < (↑15 : Int)) ∧ (2 < 15 ∧ 1 = 1) ∧ condP (!decide (List.getD z0 2 (0 : Int) = (0 : Int))) (R (.int .i64 (List.getD z0 2 (0 : Int))) []) (inR .i64 ((0 : Int) + (1 : Int) + (1 : Int) + (1 : Int)) ∧ ((0 : Int) ≤ (0 : Int) + (1 : Int) + (1 : Int) + (1 : Int) ∧ (0 : Int) + (1 : Int) + (1 : Int) + (1 : Int) < (↑15 : Int)) ∧ (3 < 15 ∧ 1 = 1) ∧ condP (!decide (List.getD z0 3 (0 : Int) = (0 : Int))) (R (.int .i64 (List.getD z0 3 (0 : Int))) []) (inR .i64 ((0 : Int) + (1 : Int) + (1 : Int) + (1 : Int) + (1 : Int)) ∧ ((0 : Int) ≤ (0 : Int) + (1 : Int) + (1 : Int) + (1 : Int) + (1 : Int) ∧ (0 : Int) + (1 : Int) + (1 : Int) + (1 : Int) + (1 : Int) < (↑15 : Int)) ∧ (4 < 15 ∧ 1 = 1) ∧ condP (!decide (List.getD z0 4 (0 : Int) = (0 : Int))) (R (.int .i64 (List.getD z0 4 (0 : Int))) []) (inR .i64 ((0 : Int) + (1 : Int) + (1 : Int) + (1 : Int) + (1 : Int) + (1 : Int)) ∧ ((0 : Int) ≤ (0 : Int) + (1 : Int) + (1 : Int) + (1 : Int) + (1 : Int) + (1 : Int) ∧ (0 : Int) + (1 : Int) + (1 : Int) + (1 : Int) + (1 : Int) + (1 : Int) < (↑15 : Int)) ∧ (5 < 15 ∧ 1 = 1) ∧ condP (!decide (List.getD z0 5 (0 : Int) = (0 : Int))) (R (.int .i64 (List.getD z0 5 (0 : Int))) []) (inR .i64 ((0 : Int) + (1 : Int) + (1 : Int) + (1 : Int) + (1 : Int) + (1 : Int) + (1 : Int)) ∧ ((0 : Int) ≤ (0 : Int) + (1 : Int) + (1 : Int) + (1 : Int) + (1 : Int) + (1 : Int) + (1 : Int) ∧ (0 : Int) + (1 : Int) + (1 : Int) + (1 : Int) + (1 : Int) + (1 : Int) + (1 : Int) < (↑15 : Int)) ∧ (6 < 15 ∧ 1 = 1) ∧ condP (!decide (List.getD z0 6 (0 : Int) = (0 : Int))) (R (.int .i64 (List.getD z0 6 (0 : Int))) []) (inR .i64 ((0 : Int) + (1 : Int) + (1 : Int) + (1 : Int) + (1 : Int) + (1 : Int) + (1 : Int) + (1 : Int)) ∧ ((0 : Int) ≤ (0 : Int) + (1 : Int) + (1 : Int) + (1 : Int) + (1 : Int) + (1 : Int) + (1 : Int) + (1 : Int) ∧ (0 : Int) + (1 : Int) + (1 : Int) + (1 : Int) + (1 : Int) + (1 : Int) + (1 : Int) + (1 : Int) < (↑15 : Int)) ∧ (7 < 15 ∧ 1 = 1) ∧ condP (!decide (List.getD z0 7 (0 : Int) = (0 : Int))) (R (.int .i64 (List.getD z0 7 (0 : Int))) []) (inR .i64 ((0 : Int) + (1 : Int) + (1 : Int) + (1 : Int) + (1 : Int) + (1 : Int) + (1 : Int) + (1 : Int) + (1 : Int)) ∧ ((0 : Int) ≤ (0 : Int) + (1 : Int) + (1 : Int) + (1 : Int) + (1 : Int) + (1 : Int) + (1 : Int) + (1 : Int) + (1 : Int) ∧ (0 : Int) + (1 : Int) + (1 : Int) + (1 : Int) + (1 : Int) + (1 : Int) + (1 : Int) + (1 : Int) + (1 : Int) < (↑15 : Int)) ∧ (8 < 15 ∧ 1 = 1) ∧ condP (!decide (List.getD z0 8 (0 : Int) = (0 : Int))) (R (.int .i64 (List.getD z0 8 (0 : Int))) []) (inR .i64 ((0 : Int) + (1 : Int) + (1 : Int) + (1 : Int) + (1 : Int) + (1 : Int) + (1 : Int) + (1 : Int) + (1 : Int) + (1 : Int)) ∧ ((0 : Int) ≤ (0 : Int) + (1 : Int) + (1 : Int) + (1 : Int) + (1 : Int) + (1 : Int) + (1 : Int) + (1 : Int) + (1 : Int) + (1 : Int) ∧ (0 : Int) + (1 : Int) + (1 : Int) + (1 : Int) + (1 : Int) + (1 : Int) + (1 : Int) + (1 : Int) + (1 : Int) + (1 : Int) < (↑15 : Int)) ∧ (9 < 15 ∧ 1 = 1) ∧ condP (!decide (List.getD z0 9 (0 : Int) = (0 : Int))) (R (.int .i64 (List.getD z0 9 (0 : Int))) []) (inR .i64 ((0 : Int) + (1 : Int) + (1 : Int) + (1 : Int) + (1 : Int) + (1 : Int) + (1 : Int) + (1 : Int) + (1 : Int) + (1 : Int) + (1 : Int)) ∧ ((0 : Int) ≤ (0 : Int) + (1 : Int) + (1 : Int) + (1 : Int) + (1 : Int) + (1 : Int) + (1 : Int) + (1 : Int) + (1 : Int) + (1 : Int) + (1 : Int) ∧ (0 : Int) + (1 : Int) + (1 : Int) + (1 : Int) + (1 : Int) + (1 : Int) + (1 : Int) + (1 : Int) + (1 : Int) + (1 : Int) + (1 : Int) < (↑15 : Int)) ∧ (10 < 15 ∧ 1 = 1) ∧ condP (!decide (List.getD z0 10 (0 : Int) = (0 : Int))) (R (.int .i64 (List.getD z0 10 (0 : Int))) []) (inR .i64 ((0 : Int) + (1 : Int) + (1 : Int) + (1 : Int) + (1 : Int) + (1 : Int) + (1 : Int) + (1 : Int) + (1 : Int) + (1 : Int) + (1 : Int) + (1 : Int)) ∧ ((0 : Int) ≤ (0 : Int) + (1 : Int) + (1 : Int) + (1 : Int) + (1 : Int) + (1 : Int) + (1 : Int) + (1 : Int) + (1 : Int) + (1 : Int) + (1 : Int) + (1 : Int) ∧ (0 : Int) + (1 : Int) + (1 : Int) + (1 : Int) + (1 : Int) + (1 : Int) + (1 : Int) + (1 : Int) + (1 : Int) + (1 : Int) + (1 : Int) + (1 : Int) < (↑15 : Int)) ∧ (11 < 15 ∧ 1 = 1) ∧ condP (!decide (List.getD z0 11 (0 : Int) = (0 : Int))) (R (.int .i64 (List.getD z0 11 (0 : Int))) []) (inR .i64 ((0 : Int) + (1 : Int) + (1 : Int) + (1 : Int) + (1 : Int) + (1 : Int) + (1 : Int) + (1 : Int) + (1 : Int) + (1 : Int) + (1 : Int) + (1 : Int) + (1 : Int)) ∧ ((0 : Int) ≤ (0 : Int) + (1 : Int) + (1 : Int) + (1 : Int) + (1 : Int) + (1 : Int) + (1 : Int) + (1 : Int) + (1 : Int) + (1 : Int) + (1 : Int) + (1 : Int) + (1 : Int) ∧ (0 : Int) + (1 : Int) + (1 : Int) + (1 : Int) + (1 : Int) + (1 : Int) + (1 : Int) + (1 : Int) + (1 : Int) + (1 : Int) + (1 : Int) + (1 : Int) + (1 : Int) < (↑15 : Int)) ∧ (12 < 15 ∧ 1 = 1) ∧ condP (!decide (List.getD z0 12 (0 : Int) = (0 : Int))) (R (.int .i64 (List.getD z0 12 (0 : Int))) []) (inR .i64 ((0 : Int) + (1 : Int) + (1 : Int) + (1 : Int) + (1 : Int) + (1 : Int) + (1 : Int) + (1 : Int) + (1 : Int) + (1 : Int) + (1 : Int) + (1 : Int) + (1 : Int) + (1 : Int)) ∧ ((0 : Int) ≤ (0 : Int) + (1 : Int) + (1 : Int) + (1 : Int) + (1 : Int) + (1 : Int) + (1 : Int) + (1 : Int) + (1 : Int) + (1 : Int) + (1 : Int) + (1 : Int) + (1 : Int) + (1 : Int) ∧ (0 : Int) + (1 : Int) + (1 : Int) + (1 : Int) + (1 : Int) + (1 : Int) + (1 : Int) + (1 : Int) + (1 : Int) + (1 : Int) + (1 : Int) + (1 : Int) + (1 : Int) + (1 : Int) < (↑15 : Int)) ∧ (13 < 15 ∧ 1 = 1) ∧ condP (!decide (List.getD z0 13 (0 : Int) = (0 : Int))) (R (.int .i64 (List.getD z0 13 (0 : Int))) []) (inR .i64 ((0 : Int) + (1 : Int) + (1 : Int) + (1 : Int) + (1 : Int) + (1 : Int) + (1 : Int) + (1 : Int) + (1 : Int) + (1 : Int) + (1 : Int) + (1 : Int) + (1 : Int) + (1 : Int) + (1 : Int)) ∧ ((0 : Int) ≤ (0 : Int) + (1 : Int) + (1 : Int) + (1 : Int) + (1 : Int) + (1 : Int) + (1 : Int) + (1 : Int) + (1 : Int) + (1 : Int) + (1 : Int) + (1 : Int) + (1 : Int) + (1 : Int) + (1 : Int) ∧ (0 : Int) + (1 : Int) + (1 : Int) + (1 : Int) + (1 : Int) + (1 : Int) + (1 : Int) + (1 : Int) + (1 : Int) + (1 : Int) + (1 : Int) + (1 : Int) + (1 : Int) + (1 : Int) + (1 : Int) < (↑15 : Int)) ∧ (14 < 15 ∧ 1 = 1) ∧ condP (!decide (List.getD z0 14 (0 : Int) = (0 : Int))) (R (.int .i64 (List.getD z0 14 (0 : Int))) []) (inR .i64 ((0 : Int) + (1 : Int) + (1 : Int) + (1 : Int) + (1 : Int) + (1 : Int) + (1 : Int) + (1 : Int) + (1 : Int) + (1 : Int) + (1 : Int) + (1 : Int) + (1 : Int) + (1 : Int) + (1 : Int) + (1 : Int)) ∧ R (.int .i64 0) [])))))))))))))))) := by kernel_rfl
theorem order_ok (hP : C.P = Tryz.prog) : SpecOK C 117 S_mcmp := by
  rintro args objs U Os vc h hvc
  unfold S_mcmp at h
  split at h <;> simp only [Option.some.injEq, Prod.mk.injEq, reduceCtorEq] at h
  rename_i dev seq kind o p per day st pr rep o' p' per' dev' num dev2 seq2 kind2 o2 p2 per2 day2 st2 pr2 rep2 o3 p3 per3 dev3 num2
  obtain ⟨rfl, rfl, rfl⟩ := h
  have hn := nf_order ⟨dev, seq, kind, ⟨o, p, per, day, st, pr, rep⟩, ⟨o', p', per', dev', num⟩⟩ ⟨dev2, seq2, kind2, ⟨o2, p2, per2, day2, st2, pr2, rep2⟩, ⟨o3, p3, per3, dev3, num2⟩⟩
  dsimp only at hn
  refine SpecOK.wp0 (prg hP) [(157, .det S_textR), (158, .det S_numR)] 16 (.cons (textR_ok hP) (.cons (numR_ok hP) .nil)) (hP ▸ Tryz.func117) rfl rfl rfl ?_
  rw [hn]
  unfold ordM
  dsimp only
  generalize cmpS dev dev2 = c0, cmpI seq seq2 = c1, cmpI kind kind2 = c2, cmpS o o2 = c3, cmpS p p2 = c4, cmpI per per2 = c5, cmpI day day2 = c6, cmpI st st2 = c7, cmpI pr pr2 = c8, cmpS rep rep2 = c9, cmpS o' o3 = c10, cmpS p' p3 = c11, cmpI per' per3 = c12, cmpS dev' dev3 = c13, cmpI num num2 = c14
  refine ⟨trivial, trivial, trivial, trivial, trivial, trivial, trivial, trivial, trivial, trivial, trivial, trivial, trivial, trivial, trivial, ⟨by omega, rfl, by omega⟩, ⟨by omega, by omega⟩, ⟨by omega, rfl⟩, ?_⟩
  refine condP_ndec (fun q => ?_) (fun q => ?_)
  · have q : ¬ c0 = 0 := q
    exact ⟨by simp [orL, q], rfl⟩
  have q : c0 = 0 := q
  subst q
  refine ⟨by simp only [inR]; omega, ⟨by omega, by omega⟩, ⟨by omega, rfl⟩, ?_⟩
  refine condP_ndec (fun q => ?_) (fun q => ?_)
  · have q : ¬ c1 = 0 := q
    exact ⟨by simp [orL, q], rfl⟩
  have q : c1 = 0 := q
  subst q
  refine ⟨by simp only [inR]; omega, ⟨by omega, by omega⟩, ⟨by omega, rfl⟩, ?_⟩
  refine condP_ndec (fun q => ?_) (fun q => ?_)
  · have q : ¬ c2 = 0 := q
    exact ⟨by simp [orL, q], rfl⟩
  have q : c2 = 0 := q
  subst q
  refine ⟨by simp only [inR]; omega, ⟨by omega, by omega⟩, ⟨by omega, rfl⟩, ?_⟩
  refine condP_ndec (fun q => ?_) (fun q => ?_)
  · have q : ¬ c3 = 0 := q
    exact ⟨by simp [orL, q], rfl⟩
  have q : c3 = 0 := q
  subst q
  refine ⟨by simp only [inR]; omega, ⟨by omega, by omega⟩, ⟨by omega, rfl⟩, ?_⟩
  refine condP_ndec (fun q => ?_) (fun q => ?_)
  · have q : ¬ c4 = 0 := q
    exact ⟨by simp [orL, q], rfl⟩
  have q : c4 = 0 := q
  subst q
  refine ⟨by simp only [inR]; omega, ⟨by omega, by omega⟩, ⟨by omega, rfl⟩, ?_⟩
  refine condP_ndec (fun q => ?_) (fun q => ?_)
  · have q : ¬ c5 = 0 := q
    exact ⟨by simp [orL, q], rfl⟩
  have q : c5 = 0 := q
  subst q
  refine ⟨by simp only [inR]; omega, ⟨by omega, by omega⟩, ⟨by omega, rfl⟩, ?_⟩
  refine condP_ndec (fun q => ?_) (fun q => ?_)
  · have q : ¬ c6 = 0 := q
    exact ⟨by simp [orL, q], rfl⟩
  have q : c6 = 0 := q
  subst q
  refine ⟨by simp only [inR]; omega, ⟨by omega, by omega⟩, ⟨by omega, rfl⟩, ?_⟩
  refine condP_ndec (fun q => ?_) (fun q => ?_)
  · have q : ¬ c7 = 0 := q
    exact ⟨by simp [orL, q], rfl⟩
  have q : c7 = 0 := q
  subst q
  refine ⟨by simp only [inR]; omega, ⟨by omega, by omega⟩, ⟨by omega, rfl⟩, ?_⟩
  refine condP_ndec (fun q => ?_) (fun q => ?_)
  · have q : ¬ c8 = 0 := q
    exact ⟨by simp [orL, q], rfl⟩
  have q : c8 = 0 := q
  subst q
  refine ⟨by simp only [inR]; omega, ⟨by omega, by omega⟩, ⟨by omega, rfl⟩, ?_⟩
  refine condP_ndec (fun q => ?_) (fun q => ?_)
  · have q : ¬ c9 = 0 := q
    exact ⟨by simp [orL, q], rfl⟩
  have q : c9 = 0 := q
  subst q
  refine ⟨by simp only [inR]; omega, ⟨by omega, by omega⟩, ⟨by omega, rfl⟩, ?_⟩
  refine condP_ndec (fun q => ?_) (fun q => ?_)
  · have q : ¬ c10 = 0 := q
    exact ⟨by simp [orL, q], rfl⟩
  have q : c10 = 0 := q
  subst q
  refine ⟨by simp only [inR]; omega, ⟨by omega, by omega⟩, ⟨by omega, rfl⟩, ?_⟩
  refine condP_ndec (fun q => ?_) (fun q => ?_)
  · have q : ¬ c11 = 0 := q
    exact ⟨by simp [orL, q], rfl⟩
  have q : c11 = 0 := q
  subst q
  refine ⟨by simp only [inR]; omega, ⟨by omega, by omega⟩, ⟨by omega, rfl⟩, ?_⟩
  refine condP_ndec (fun q => ?_) (fun q => ?_)
  · have q : ¬ c12 = 0 := q
    exact ⟨by simp [orL, q], rfl⟩
  have q : c12 = 0 := q
  subst q
  refine ⟨by simp only [inR]; omega, ⟨by omega, by omega⟩, ⟨by omega, rfl⟩, ?_⟩
  refine condP_ndec (fun q => ?_) (fun q => ?_)
  · have q : ¬ c13 = 0 := q
    exact ⟨by simp [orL, q], rfl⟩
  have q : c13 = 0 := q
  subst q
  refine ⟨by simp only [inR]; omega, ⟨by omega, by omega⟩, ⟨by omega, rfl⟩, ?_⟩
  refine condP_ndec (fun q => ?_) (fun q => ?_)
  · have q : ¬ c14 = 0 := q
    exact ⟨by simp [orL, q], rfl⟩
  have q : c14 = 0 := q
  subst q
  exact ⟨by simp only [inR]; omega, rfl, rfl⟩
end Go.Eng
namespace Go.Eng
open Go.Proofs Go.RowKit
variable {C : Ctx} [C.Loose]
set_option maxRecDepth 20000
theorem nf_rmg (g : Nat → MG) (n : Nat) (h : Nat → MG) (m : Nat) (R : AV → List (Nat × AObj) → Prop) : wpFn te [(76, .det S_msg), (117, .det S_mcmp)] [(3, L_rm (catM g n h) (n + m))] 0 Tryz.f64 [.view 15 n (mgRow g), .view 15 m (mgRow h)] [] R = (letI z0 := mfL (catM g n h) (n + m); (0 ≤ 16777216 ∧ 15 = 15 ∧ 0 ≤ 9223372036854775807) ∧ (15 = 15 ∧ 0 ≤ 0 ∧ 15 = 15 ∧ 40 = 40 ∧ 15 = 15 ∧ 0 + n ≤ 9223372036854775807 ∧ (0 + n) * TI.bytes shrtE0 ≤ 140737488355328) ∧ (15 = 15 ∧ 0 + n ≤ 0 + n ∧ 15 = 15 ∧ 40 = 40 ∧ 15 = 15 ∧ 0 + n + m ≤ 9223372036854775807 ∧ (0 + n + m) * TI.bytes shrtE0 ≤ 140737488355328) ∧ (TEq [(5, .own 0 0), (14, .own 1 (0 + n + m)), (15, .int .i64 (↑(0 + n + m) : Int)), (16, .int .i64 0)] [(5, .own 0 0), (14, .own 1 (n + m)), (15, .int .i64 (↑(n + m) : Int)), (16, .int .i64 (↑0 : Int))] ∧ RowsEq [(0, .row 40 15 0 (fun (_x : Nat) => []) false), (1, .row 40 15 (0 + n + m) (apF (0 + n) (apF 0 (chunkA (TI.sz shrtE0) (List.flatten (List.replicate 0 [.str ([]), .int .i64 0, .int .i64 0, .str ([]), .str ([]), .int .i64 0, .int .i64 0, .int .i64 0, .int .i64 0, .str ([]), .str ([]), .str ([]), .int .i64 0, .str ([]), .int .i64 0]))) (mgRow g)) (mgRow h)) false)] [(0, .row 40 15 0 (mgRow (atM (mfL (catM g n h) 0))) false), (1, .row 40 15 (n + m) (mgRow (catM g n h)) false)]) ∧ n + m ≤ 200000 ∧ (∀ (i : Nat), i < n + m → MG.Sm (catM g n h i)) ∧ (∀ (i : Nat), i < List.length z0 → true = true) ∧ ∃ (O' : List (Nat × AObj)), RowsEq [(0, .row 40 15 (List.length z0) (mgRow (atM z0)) false)] O' ∧ R (.own 0 (List.length z0)) O') := by kernel_rfl
theorem nf_rmi_round (L : List MG) (m : MG) (c : Nat → MG) (N k a : Nat) (P : Nat → Prop) (R : Exit → St → Prop) : roundP ⟨te, [(117, .det S_mcmp)], [], 0, 65, 0⟩ (loopB Tryz.f64 7) [5, 7, 8, 14, 15, 16] [5, 7, 8, 14, 15, 16] [] (S_rmi L m c N k) P R (S_rmi L m c N k a) = (letI z2 := ([(5, .own 0 (List.length L)), (7, .ptr 1 0), (8, .int .i64 (↑a : Int)), (14, .own 2 N), (15, .int .i64 (↑N : Int)), (16, .int .i64 (↑k : Int))] : List (Nat × AV)); letI z1 := (atM L (Int.toNat ((↑a : Int) - (1 : Int)))); letI z0 := ([(0, .row 40 15 (List.length L) (mgRow (atM L)) false), (1, .cells [.str (MG.dev m), .int .i64 (MG.seq m), .int .i64 (MG.kind m), .str (VT.o (MG.v m)), .str (VT.p (MG.v m)), .int .i64 (VT.per (MG.v m)), .int .i64 (VT.day (MG.v m)), .int .i64 (VT.st (MG.v m)), .int .i64 (VT.pr (MG.v m)), .str (VT.rep (MG.v m)), .str (DT.o (MG.d m)), .str (DT.p (MG.d m)), .int .i64 (DT.per (MG.d m)), .str (DT.dev (MG.d m)), .int .i64 (DT.num (MG.d m))] 40), (2, .row 40 15 N (mgRow c) false)] : List (Nat × AObj)); condP (decide ((0 : Int) < (↑a : Int))) (inR .i64 ((↑a : Int) - (1 : Int)) ∧ ((0 : Int) ≤ (↑a : Int) - (1 : Int) ∧ (↑a : Int) - (1 : Int) < (↑(List.length L) : Int)) ∧ (Int.toNat ((↑a : Int) - (1 : Int)) < List.length L ∧ 15 = 15) ∧ True ∧ condP (decide (ordM (MG.mk (MG.dev m) (MG.seq m) (MG.kind m) (VT.mk (VT.o (MG.v m)) (VT.p (MG.v m)) (VT.per (MG.v m)) (VT.day (MG.v m)) (VT.st (MG.v m)) (VT.pr (MG.v m)) (VT.rep (MG.v m))) (DT.mk (DT.o (MG.d m)) (DT.p (MG.d m)) (DT.per (MG.d m)) (DT.dev (MG.d m)) (DT.num (MG.d m)))) (MG.mk (MG.dev z1) (MG.seq z1) (MG.kind z1) (VT.mk (VT.o (MG.v z1)) (VT.p (MG.v z1)) (VT.per (MG.v z1)) (VT.day (MG.v z1)) (VT.st (MG.v z1)) (VT.pr (MG.v z1)) (VT.rep (MG.v z1))) (DT.mk (DT.o (MG.d z1)) (DT.p (MG.d z1)) (DT.per (MG.d z1)) (DT.dev (MG.d z1)) (DT.num (MG.d z1)))) < (0 : Int))) (inR .i64 ((↑a : Int) - (1 : Int)) ∧ ∃ (i' : Nat), (TEq [(5, .own 0 (List.length L)), (7, .ptr 1 0), (8, .int .i64 ((↑a : Int) - (1 : Int))), (14, .own 2 N), (15, .int .i64 (↑N : Int)), (16, .int .i64 (↑k : Int))] [(5, .own 0 (List.length L)), (7, .ptr 1 0), (8, .int .i64 (↑i' : Int)), (14, .own 2 N), (15, .int .i64 (↑N : Int)), (16, .int .i64 (↑k : Int))] ∧ RowsEq z0 z0) ∧ P i') ((∀ (i : Nat), i < List.length L → true = true) ∧ (∀ (i : Nat), i < N → true = true) ∧ ∃ (O' : List (Nat × AObj)), RowsEq z0 O' ∧ R (.exit 2) (St.mk z2 O' 3 []))) ((∀ (i : Nat), i < List.length L → true = true) ∧ (∀ (i : Nat), i < N → true = true) ∧ ∃ (O' : List (Nat × AObj)), RowsEq z0 O' ∧ R (.exit 2) (St.mk z2 O' 3 []))) := by kernel_rfl
theorem nf_rm_round (c : Nat → MG) (N k : Nat) (P : Nat → Prop) (R : Exit → St → Prop) : roundP ⟨te, [(76, .det S_msg), (117, .det S_mcmp)], [(7, L_rmi (mfL c k) (c k) c N k)], 0, 65, 0⟩ (loopB Tryz.f64 3) [5, 14, 15, 16] [5] [] (S_rm c N) P R (S_rm c N k) = (letI z10 := mgRow (atM (mfL c k)); letI z6 := List.length (mfL c k); letI z8 := ([(5, .own 0 z6), (7, .ptr 1 0), (8, .int .i64 (↑z6 : Int)), (14, .own 2 N), (15, .int .i64 (↑N : Int)), (16, .int .i64 (↑k : Int))] : List (Nat × AV)); letI z4 := (inR .i64 ((↑k : Int) + (1 : Int)) ∧ ∃ (i' : Nat), (TEq [(5, .own 0 z6), (14, .own 1 N), (15, .int .i64 (↑N : Int)), (16, .int .i64 ((↑k : Int) + (1 : Int)))] [(5, .own 0 (List.length (mfL c i'))), (14, .own 1 N), (15, .int .i64 (↑N : Int)), (16, .int .i64 (↑i' : Int))] ∧ RowsEq [(0, .row 40 15 z6 z10 false), (1, .row 40 15 N (mgRow c) false)] [(0, .row 40 15 (List.length (mfL c i')) (mgRow (atM (mfL c i'))) false), (1, .row 40 15 N (mgRow c) false)]) ∧ P i'); letI z2 := (c (Int.toNat (↑k : Int))); letI z0 := (↑(dnM (mfL c k) (c k) z6) : Int); letI z13 := Int.toNat z0 ≤ List.length (mfL c k) ∧ 15 = 15; letI z14 := z13 ∧ 0 ≤ 0 ∧ 15 = 15 ∧ 40 = 40 ∧ 15 = 15 ∧ 0 + Int.toNat z0 ≤ 9223372036854775807 ∧ (0 + Int.toNat z0) * TI.bytes shrtE0 ≤ 140737488355328; letI z7 := List.length (mfL c k) - Int.toNat z0; letI z11 := Int.toNat z0 + z7 ≤ List.length (mfL c k) ∧ 15 = 15 ∧ 15 = 15; letI z12 := z11 ∧ 0 + Int.toNat z0 + 1 ≤ 0 + Int.toNat z0 + 1 ∧ 15 = 15 ∧ 40 = 40 ∧ 15 = 15 ∧ 0 + Int.toNat z0 + 1 + z7 ≤ 9223372036854775807 ∧ (0 + Int.toNat z0 + 1 + z7) * TI.bytes shrtE0 ≤ 140737488355328; letI z9 := ([(5, .own 0 (0 + Int.toNat z0 + 1 + z7)), (14, .own 1 N), (15, .int .i64 (↑N : Int)), (16, .int .i64 ((↑k : Int) + (1 : Int)))] : List (Nat × AV)); letI z3 := (atM (mfL c k) (Int.toNat (z0 - (1 : Int)))); letI z1 := ([(0, .row 40 15 (0 + Int.toNat z0 + 1 + z7) (apF (0 + Int.toNat z0 + 1) (apF (0 + Int.toNat z0) (apF 0 (chunkA (TI.sz shrtE0) (List.flatten (List.replicate 0 [.str ([]), .int .i64 0, .int .i64 0, .str ([]), .str ([]), .int .i64 0, .int .i64 0, .int .i64 0, .int .i64 0, .str ([]), .str ([]), .str ([]), .int .i64 0, .str ([]), .int .i64 0]))) z10) (chunkA (TI.sz shrtE0) (.str (MG.dev (c k)) :: .int .i64 (MG.seq (c k)) :: .int .i64 (MG.kind (c k)) :: .str (VT.o (MG.v (c k))) :: .str (VT.p (MG.v (c k))) :: .int .i64 (VT.per (MG.v (c k))) :: .int .i64 (VT.day (MG.v (c k))) :: .int .i64 (VT.st (MG.v (c k))) :: .int .i64 (VT.pr (MG.v (c k))) :: .str (VT.rep (MG.v (c k))) :: .str (DT.o (MG.d (c k))) :: .str (DT.p (MG.d (c k))) :: .int .i64 (DT.per (MG.d (c k))) :: .str (DT.dev (MG.d (c k))) :: .int .i64 (DT.num (MG.d (c k))) :: List.append [] shrtE1))) fun (i : Nat) => letI z5 := atM (mfL c k) (Int.toNat z0 + i); [.str (MG.dev z5), .int .i64 (MG.seq z5), .int .i64 (MG.kind z5), .str (VT.o (MG.v z5)), .str (VT.p (MG.v z5)), .int .i64 (VT.per (MG.v z5)), .int .i64 (VT.day (MG.v z5)), .int .i64 (VT.st (MG.v z5)), .int .i64 (VT.pr (MG.v z5)), .str (VT.rep (MG.v z5)), .str (DT.o (MG.d z5)), .str (DT.p (MG.d z5)), .int .i64 (DT.per (MG.d z5)), .str (DT.dev (MG.d z5)), .int .i64 (DT.num (MG.d z5))]) false), (1, .row 40 15 N (mgRow c) false)] : List (Nat × AObj)); condP (decide ((↑k : Int) < (↑N : Int))) (((0 : Int) ≤ (↑k : Int) ∧ (↑k : Int) < (↑N : Int)) ∧ (Int.toNat (↑k : Int) < N ∧ 15 = 15) ∧ (List.length (MG.dev z2) < 4294967281 ∧ List.length (VT.o (MG.v z2)) < 4294967281 ∧ List.length (DT.o (MG.d z2)) < 4294967281 ∧ List.length (DT.dev (MG.d z2)) < 4294967281) ∧ condP (!decide (msgF (MG.mk (MG.dev z2) (MG.seq z2) (MG.kind z2) (VT.mk (VT.o (MG.v z2)) (VT.p (MG.v z2)) (VT.per (MG.v z2)) (VT.day (MG.v z2)) (VT.st (MG.v z2)) (VT.pr (MG.v z2)) (VT.rep (MG.v z2))) (DT.mk (DT.o (MG.d z2)) (DT.p (MG.d z2)) (DT.per (MG.d z2)) (DT.dev (MG.d z2)) (DT.num (MG.d z2)))) = (0 : Int))) z4 ((TEq z8 z8 ∧ RowsEq [(0, .row 40 15 z6 z10 false), (1, .cells [.str (MG.dev z2), .int .i64 (MG.seq z2), .int .i64 (MG.kind z2), .str (VT.o (MG.v z2)), .str (VT.p (MG.v z2)), .int .i64 (VT.per (MG.v z2)), .int .i64 (VT.day (MG.v z2)), .int .i64 (VT.st (MG.v z2)), .int .i64 (VT.pr (MG.v z2)), .str (VT.rep (MG.v z2)), .str (DT.o (MG.d z2)), .str (DT.p (MG.d z2)), .int .i64 (DT.per (MG.d z2)), .str (DT.dev (MG.d z2)), .int .i64 (DT.num (MG.d z2))] 40), (2, .row 40 15 N (mgRow c) false)] [(0, .row 40 15 z6 z10 false), (1, .cells [.str (MG.dev (c k)), .int .i64 (MG.seq (c k)), .int .i64 (MG.kind (c k)), .str (VT.o (MG.v (c k))), .str (VT.p (MG.v (c k))), .int .i64 (VT.per (MG.v (c k))), .int .i64 (VT.day (MG.v (c k))), .int .i64 (VT.st (MG.v (c k))), .int .i64 (VT.pr (MG.v (c k))), .str (VT.rep (MG.v (c k))), .str (DT.o (MG.d (c k))), .str (DT.p (MG.d (c k))), .int .i64 (DT.per (MG.d (c k))), .str (DT.dev (MG.d (c k))), .int .i64 (DT.num (MG.d (c k)))] 40), (2, .row 40 15 N (mgRow c) false)]) ∧ List.length (mfL c k) ≤ 200000 ∧ condP (decide ((0 : Int) < z0)) (inR .i64 (z0 - (1 : Int)) ∧ ((0 : Int) ≤ z0 - (1 : Int) ∧ z0 - (1 : Int) < (↑z6 : Int)) ∧ (Int.toNat (z0 - (1 : Int)) < List.length (mfL c k) ∧ 15 = 15) ∧ condP (decide (MG.dev z3 = MG.dev (c k)) && (decide (MG.seq z3 = MG.seq (c k)) && (decide (MG.kind z3 = MG.kind (c k)) && (decide (VT.o (MG.v z3) = VT.o (MG.v (c k))) && (decide (VT.p (MG.v z3) = VT.p (MG.v (c k))) && (decide (VT.per (MG.v z3) = VT.per (MG.v (c k))) && (decide (VT.day (MG.v z3) = VT.day (MG.v (c k))) && (decide (VT.st (MG.v z3) = VT.st (MG.v (c k))) && (decide (VT.pr (MG.v z3) = VT.pr (MG.v (c k))) && decide (VT.rep (MG.v z3) = VT.rep (MG.v (c k)))))))) && (decide (DT.o (MG.d z3) = DT.o (MG.d (c k))) && (decide (DT.p (MG.d z3) = DT.p (MG.d (c k))) && (decide (DT.per (MG.d z3) = DT.per (MG.d (c k))) && (decide (DT.dev (MG.d z3) = DT.dev (MG.d (c k))) && decide (DT.num (MG.d z3) = DT.num (MG.d (c k))))))))))) z4 ((0 ≤ 16777216 ∧ 15 = 15 ∧ 0 ≤ 9223372036854775807) ∧ ((0 : Int) ≤ z0 ∧ z0 ≤ (↑z6 : Int)) ∧ z14 ∧ (15 ≤ 16777216 ∧ 15 = 15 ∧ 1 ≤ 9223372036854775807) ∧ ((1 ≤ 1 ∧ 15 = 15) ∧ 0 + Int.toNat z0 ≤ 0 + Int.toNat z0 ∧ 15 = 15 ∧ 40 = 40 ∧ 15 = 15 ∧ 0 + Int.toNat z0 + 1 ≤ 9223372036854775807 ∧ (0 + Int.toNat z0 + 1) * TI.bytes shrtE0 ≤ 140737488355328) ∧ ((0 : Int) ≤ z0 ∧ z0 ≤ (↑z6 : Int)) ∧ z12 ∧ inR .i64 ((↑k : Int) + (1 : Int)) ∧ ∃ (i' : Nat), (TEq z9 [(5, .own 0 (List.length (mfL c i'))), (14, .own 1 N), (15, .int .i64 (↑N : Int)), (16, .int .i64 (↑i' : Int))] ∧ RowsEq z1 [(0, .row 40 15 (List.length (mfL c i')) (mgRow (atM (mfL c i'))) false), (1, .row 40 15 N (mgRow c) false)]) ∧ P i')) ((0 ≤ 16777216 ∧ 15 = 15 ∧ 0 ≤ 9223372036854775807) ∧ ((0 : Int) ≤ z0 ∧ z0 ≤ (↑z6 : Int)) ∧ z14 ∧ (15 ≤ 16777216 ∧ 15 = 15 ∧ 1 ≤ 9223372036854775807) ∧ ((1 ≤ 1 ∧ 15 = 15) ∧ 0 + Int.toNat z0 ≤ 0 + Int.toNat z0 ∧ 15 = 15 ∧ 40 = 40 ∧ 15 = 15 ∧ 0 + Int.toNat z0 + 1 ≤ 9223372036854775807 ∧ (0 + Int.toNat z0 + 1) * TI.bytes shrtE0 ≤ 140737488355328) ∧ ((0 : Int) ≤ z0 ∧ z0 ≤ (↑z6 : Int)) ∧ z12 ∧ inR .i64 ((↑k : Int) + (1 : Int)) ∧ ∃ (i' : Nat), (TEq z9 [(5, .own 0 (List.length (mfL c i'))), (14, .own 1 N), (15, .int .i64 (↑N : Int)), (16, .int .i64 (↑i' : Int))] ∧ RowsEq z1 [(0, .row 40 15 (List.length (mfL c i')) (mgRow (atM (mfL c i'))) false), (1, .row 40 15 N (mgRow c) false)]) ∧ P i'))) ((∀ (i : Nat), i < List.length (mfL c k) → true = true) ∧ ∃ (O' : List (Nat × AObj)), RowsEq [(0, .row 40 15 z6 z10 false)] O' ∧ R (.exit 0) (St.mk [(5, .own 0 z6)] O' 1 []))) := by kernel_rfl
theorem dnM_le (L : List MG) (m : MG) : ∀ a, dnM L m a ≤ a
  | 0 => Nat.le_refl _
  | a + 1 => by
    rw [dnM]
    cases decide (ordM m (atM L a) < 0) with
    | true => have := dnM_le L m a; show dnM L m a ≤ a + 1; omega
    | false => exact Nat.le_refl _
theorem dnM_hi (L : List MG) (m : MG) : ∀ a i, dnM L m a ≤ i → i < a → ordM m (atM L i) < 0
  | 0, i, _, h => absurd h (Nat.not_lt_zero _)
  | a + 1, i, h1, h2 => by
    rw [dnM] at h1
    by_cases q : ordM m (atM L a) < 0
    · rw [decide_eq_true q] at h1
      by_cases e : i = a
      · rw [e]; exact q
      · exact dnM_hi L m a i h1 (by omega)
    · rw [decide_eq_false q] at h1
      have h1 : a + 1 ≤ i := h1
      omega
theorem dnM_lo (L : List MG) (m : MG) : ∀ a, dnM L m a = 0 ∨ ¬ ordM m (atM L (dnM L m a - 1)) < 0
  | 0 => .inl rfl
  | a + 1 => by
    rw [dnM]
    by_cases q : ordM m (atM L a) < 0
    · rw [decide_eq_true q]; exact dnM_lo L m a
    · rw [decide_eq_false q]; exact .inr q
theorem mfL_succ (c : Nat → MG) (k : Nat) : mfL c (k + 1) = bif okM (c k) then insM (mfL c k) (c k) else mfL c k := by
  unfold mfL
  rw [lst_snocM, mrgF_snoc]
theorem mfL_len (c : Nat → MG) (k : Nat) : (mfL c k).length ≤ k := by
  have := mrgF_len (lst c k)
  have e : (lst c k).length = k := by simp [lst]
  unfold mfL; omega
theorem lst_catM (g : Nat → MG) (n : Nat) (h : Nat → MG) (m : Nat) : lst (catM g n h) (n + m) = lst g n ++ lst h m := by
  apply List.ext_getElem
  · simp [lst]
  · intro i h1 h2
    have hi : i < n + m := by simpa [lst] using h1
    by_cases q : i < n
    · rw [List.getElem_append_left (by simp [lst, q])]
      simp [lst, catM, q]
    · rw [List.getElem_append_right (by simp [lst]; omega)]
      simp [lst, catM, q]
theorem rmi_loop (hP : C.P = Tryz.prog) (L : List MG) (m : MG) (c : Nat → MG) (N k : Nat) : LoopOK C 0 65 (loopC Tryz.f64 7) (L_rmi L m c N k) := by
  rintro st Q ⟨h0, hn, hQ⟩
  refine LoopOK.mk (prg hP) [(117, .det S_mcmp)] 0 (.cons (order_ok hP) .nil) [5, 7, 8, 14, 15, 16] [5, 7, 8, 14, 15, 16] [] (S_rmi L m c N k) (fun a => a ≤ L.length ∧ dnM L m a = dnM L m L.length) (fun a => a) L.length ⟨Nat.le_refl _, rfl⟩ h0 (fun a ha => ?_) (fun i => ⟨fun _ _ => rfl, fun _ _ => rfl, trivial⟩)
  obtain ⟨ha, hd⟩ := ha
  rw [nf_rmi_round]
  refine condP_dec (fun q => ?_) (fun q => ?_)
  · obtain ⟨b, rfl⟩ : ∃ b, a = b + 1 := ⟨a - 1, by omega⟩
    have e : (((b + 1 : Nat) : Int) - 1).toNat = b := by omega
    have hb : ((b + 1 : Nat) : Int) - 1 = (b : Int) := by omega
    rw [e, hb]
    refine ⟨by simp only [inR]; omega, ⟨by omega, by omega⟩, ⟨by omega, rfl⟩, trivial, condP_dec (fun q2 => ?_) (fun q2 => ?_)⟩
    · have q2 : ordM m (atM L b) < 0 := q2
      exact ⟨by simp only [inR]; omega, b, ⟨rfl, rowsEqR _⟩, ⟨by omega, by rw [← hd, dnM, decide_eq_true q2]; rfl⟩, by omega⟩
    · have q2 : ¬ ordM m (atM L b) < 0 := q2
      have e2 : dnM L m L.length = b + 1 := by rw [← hd, dnM, decide_eq_false q2]; rfl
      rw [e2] at hQ
      exact ⟨fun _ _ => rfl, fun _ _ => rfl, _, rowsEqR _, hQ⟩
  · have e0 : a = 0 := by omega
    subst e0
    have e2 : dnM L m L.length = 0 := hd.symm
    rw [e2] at hQ
    exact ⟨fun _ _ => rfl, fun _ _ => rfl, _, rowsEqR _, hQ⟩
theorem rm_loop (hP : C.P = Tryz.prog) (c : Nat → MG) (N : Nat) : LoopOK C 0 65 (loopC Tryz.f64 3) (L_rm c N) := by
  rintro st Q ⟨h0, hn, hs, hQ⟩
  refine AWP.ownNil 5 40 15 ?_
  refine LoopOK.mkI (prg hP) [(76, .det S_msg), (117, .det S_mcmp)] (fun k : Nat => [(7, L_rmi (mfL c k) (c k) c N k)]) 0 (.cons (msgR_ok hP) (.cons (order_ok hP) .nil))
    (fun k => [(loopC Tryz.f64 7, L_rmi (mfL c k) (c k) c N k)])
    (fun k => by kernel_rfl) (fun k => ⟨rmi_loop hP _ _ _ _ _, trivial⟩) [5, 14, 15, 16] [5] [] (S_rm c N) (fun k => k ≤ N) (fun k => N - k) 0 (Nat.zero_le _) h0 (fun k hk => ?_) (fun i => ⟨fun _ _ => rfl, fun _ _ => rfl, trivial⟩)
  rw [nf_rm_round, Int.toNat_natCast, Int.toNat_natCast]
  have hsu := mfL_succ c k
  have hlen := mfL_len c k
  have hasc : Asc ordM (mfL c k) := mrgF_asc _
  have hple := dnM_le (mfL c k) (c k) (mfL c k).length
  have hhi := dnM_hi (mfL c k) (c k) (mfL c k).length
  have hlo := dnM_lo (mfL c k) (c k) (mfL c k).length
  refine condP_dec (fun h1 => ?_) (fun h1 => ?_)
  · have hkN : k < N := by omega
    have hk := hs k hkN
    generalize hL : mfL c k = L at *
    generalize hx : c k = x at *
    generalize dnM L x L.length = p at *
    have no : mfL c (k + 1) = L → inR .i64 ((k : Int) + 1) ∧ ∃ i' : Nat, (TEq [(5, .own 0 L.length), (14, .own 1 N), (15, .int .i64 (N : Int)), (16, .int .i64 ((k : Int) + 1))] [(5, .own 0 (mfL c i').length), (14, .own 1 N), (15, .int .i64 (N : Int)), (16, .int .i64 (i' : Int))] ∧
        RowsEq [(0, .row 40 15 L.length (mgRow (atM L)) false), (1, .row 40 15 N (mgRow c) false)] [(0, .row 40 15 (mfL c i').length (mgRow (atM (mfL c i'))) false), (1, .row 40 15 N (mgRow c) false)]) ∧ (i' ≤ N ∧ N - i' < N - k) := fun e => ⟨by simp only [inR]; omega, k + 1, by rw [e]; exact ⟨rfl, rowsEqR _⟩, by omega, by omega⟩
    refine ⟨⟨by omega, by omega⟩, ⟨by omega, rfl⟩, ⟨hk.a, hk.b, hk.c, hk.d⟩, condP_ndec (fun q => ?_) (fun q => ⟨⟨rfl, rowsEqR _⟩, by omega, ?_⟩)⟩
    · have q : ¬ msgF x = 0 := q
      exact no (by rw [hsu, show okM x = false from decide_eq_false q]; rfl)
    · have q : msgF x = 0 := q
      have hins := insM_at hasc (m := x) (a := p) hple hhi hlo
      rw [show okM x = true from decide_eq_true q] at hsu
      have hsu : mfL c (k + 1) = insM L x := hsu
      have e1 : ((p : Int) - 1).toNat = p - 1 := by omega
      rw [e1]
      have hlen2 : (L.take p ++ x :: L.drop p).length = 0 + p + 1 + (L.length - p) := by simp; omega
      refine condP_dec (fun h2 => ⟨by simp only [inR]; omega, ⟨by omega, by omega⟩, ⟨by omega, rfl⟩, condP_intro (fun h3 => ?_) (fun h3 => ?_)⟩) (fun h2 => ?_)
      · have h3 : eqM (atM L (p - 1)) x = true := h3
        rw [decide_eq_true (show 0 < p by omega), h3] at hins
        exact no (hsu.trans hins)
      all_goals
        have eM : mfL c (k + 1) = L.take p ++ x :: L.drop p := by
          rw [hsu, hins]
          first
            | (rw [decide_eq_false (show ¬ 0 < p by omega)]; rfl)
            | (rw [show eqM (atM L (p - 1)) x = false from h3, Bool.and_false]; rfl)
        refine ⟨⟨by omega, rfl, by omega⟩, ⟨by omega, by omega⟩, ⟨⟨by omega, rfl⟩, Nat.le_refl _, rfl, rfl, rfl, by omega, ?_⟩, ⟨by omega, rfl, by omega⟩, ⟨⟨Nat.le_refl _, rfl⟩, Nat.le_refl _, rfl, rfl, rfl, by omega, ?_⟩, ⟨by omega, by omega⟩, ⟨⟨by omega, rfl, rfl⟩, Nat.le_refl _, rfl, rfl, rfl, by omega, ?_⟩, by simp only [inR]; omega, k + 1, ?_, by omega, by omega⟩
        · show (0 + p) * 176 ≤ _
          omega
        · show (0 + p + 1) * 176 ≤ _
          omega
        · show (0 + p + 1 + (L.length - p)) * 176 ≤ _
          omega
        · rw [eM]
          refine ⟨by rw [hlen2]; rfl, ⟨rfl, rfl, rfl, hlen2.symm, rfl, fun j hj => ?_⟩, ⟨rfl, rfl, rfl, rfl, rfl, fun _ _ => rfl⟩, trivial⟩
          exact insRow mgC L x p hple _ _ rfl j hj
  · have : k = N := by omega
    subst this
    exact ⟨fun _ _ => rfl, _, rowsEqR _, hQ⟩
theorem mrgR_ok (hP : C.P = Tryz.prog) : SpecOK C 64 S_mrgV := by
  rintro args objs U Os vc hh hvc
  unfold S_mrgV at hh
  split at hh <;> simp only [Option.some.injEq, Prod.mk.injEq, reduceCtorEq] at hh
  rename_i n f m h
  obtain ⟨rfl, rfl, rfl⟩ := hh
  obtain ⟨hn, hm, hf, hh, s1, s2⟩ := hvc
  generalize mgOf f = g at *
  generalize mgOf h = j at *
  subst hf; subst hh
  refine ACalls.frzO 0 ?_
  refine RSpecOK.wpL (prg hP) [(76, .det S_msg), (117, .det S_mcmp)] [(3, L_rm (catM g n j) (n + m))] 0 (.cons (msgR_ok hP) (.cons (order_ok hP) .nil)) (hP ▸ Tryz.func64) rfl rfl rfl [(loopC Tryz.f64 3, L_rm (catM g n j) (n + m))] (by kernel_rfl) ⟨rm_loop hP _ _, trivial⟩ ?_
  rw [nf_rmg, Nat.zero_add]
  have hM : mfL (catM g n j) (n + m) = mrgL g n j m := by unfold mfL mrgL; rw [lst_catM]
  have hg : mgOf (mgRow g) = g := rfl
  have hj : mgOf (mgRow j) = j := rfl
  rw [hM]
  have sm : ∀ i, i < n + m → (catM g n j i).Sm := fun i hi => by
    unfold catM
    by_cases q : i < n
    · rw [if_pos q]; exact s1 i q
    · rw [if_neg q]; exact s2 _ (by omega)
  refine ⟨⟨by omega, rfl, by omega⟩, ⟨rfl, Nat.zero_le _, rfl, rfl, rfl, by omega, ?_⟩, ⟨rfl, Nat.le_refl _, rfl, rfl, rfl, by omega, ?_⟩, ⟨rfl, ⟨rfl, rfl, rfl, rfl, rfl, fun i hi => absurd hi (Nat.not_lt_zero i)⟩, ⟨rfl, rfl, rfl, rfl, rfl, fun i hi => ?_⟩, trivial⟩, by omega, sm, fun _ _ => rfl, _, rowsEqR _, fun _ _ => rfl, ?_⟩
  · show n * 176 ≤ _
    omega
  · show (n + m) * 176 ≤ _
    omega
  · unfold apF mgRow catM
    by_cases q : i < n
    · rw [if_pos q, if_neg (Nat.not_lt_zero i), if_pos q, Nat.sub_zero]
    · rw [if_neg q, if_neg q]
  · have hb : Nat.ble (mrgL g n j m).length (mrgL g n j m).length = true := Nat.ble_eq_true_of_le (Nat.le_refl _)
    constructor
    · simp [frzC, frzA, frz, hb]
    · rfl
theorem mrgRN_ok (hP : C.P = Tryz.prog) : SpecOK C 64 S_mrgVN := by
  rintro args objs U Os vc h hvc
  unfold S_mrgVN at h
  split at h <;> simp only [Option.some.injEq, Prod.mk.injEq, reduceCtorEq] at h
  rename_i n f
  obtain ⟨rfl, rfl, rfl⟩ := h
  obtain ⟨hn, hf, hs⟩ := hvc
  refine ACalls.nilArg 15 (mgRow noM) ?_
  exact mrgR_ok hP _ _ _ _ _ rfl ⟨hn, Nat.zero_le _, hf, rfl, hs, fun i hi => absurd hi (Nat.not_lt_zero i)⟩
end Go.Eng
namespace Go.Eng
open Go.Proofs Go.RowKit
variable {C : Ctx} [C.Loose]
set_option maxRecDepth 20000
theorem nf_candC (g : Nat → MG) (n : Nat) (o p : List UInt8) (per : Int) (R : AV → List (Nat × AObj) → Prop) : wpFn te [(66, .det S_right), (67, .det S_cand)] [] 0 Tryz.f26 [.view 15 n (mgRow g), .str o, .str p, .int .i64 per] [] R = (letI z0 := rightL (mgOf (mgRow g)) n; letI z1 := canL o p per (mgOf (mgRow (atM z0))) (List.length z0); (n ≤ 100000 ∧ mgRow g = mgRow (mgOf (mgRow g)) ∧ ∀ (i : Nat), i < n → MG.Sm (mgOf (mgRow g) i)) ∧ (List.length z0 ≤ 1000000 ∧ mgRow (atM z0) = mgRow (mgOf (mgRow (atM z0)))) ∧ R (.view 15 (List.length z1) (mgRow (atM z1))) []) := by kernel_rfl
theorem rightL_len (g : Nat → MG) (n : Nat) : (rightL g n).length ≤ n := by
  have := List.length_filter_le (fun x => !decide (1 < numC (atM (mrgL g n noM 0)) (mk2 x) (mrgL g n noM 0).length)) (mrgL g n noM 0)
  have := mrgL_len g n noM 0
  unfold rightL; omega
theorem candC_ok (hP : C.P = Tryz.prog) (hL : ∀ w, C.laid w → LaidW w) : SpecOK C 26 S_candR := by
  rintro args objs U Os vc h hvc
  unfold S_candR at h
  split at h <;> simp only [Option.some.injEq, Prod.mk.injEq, reduceCtorEq] at h
  rename_i n f o p per
  obtain ⟨rfl, rfl, rfl⟩ := h
  obtain ⟨hn, hf, hs⟩ := hvc
  generalize mgOf f = g at *
  subst hf
  refine SpecOK.wp0 (prg hP) [(66, .det S_right), (67, .det S_cand)] 0 (.cons (right_ok hP hL) (.cons (cand_ok hP) .nil)) (hP ▸ Tryz.func26) rfl rfl rfl ?_
  rw [nf_candC]
  have := rightL_len g n
  exact ⟨⟨hn, rfl, hs⟩, ⟨by show (rightL g n).length ≤ _; omega, rfl⟩, rfl, rfl⟩
end Go.Eng
