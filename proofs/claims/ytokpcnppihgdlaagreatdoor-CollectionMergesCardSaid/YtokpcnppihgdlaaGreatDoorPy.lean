/- The tied card of CollectionMerges: its statement is 'CollectionMergesCardSaid' of the given cards. -/
import Derived.Test.YtokpcnppihgdlaaGreatDoorPx
import Derived.Test.YtokpcnppihgdlaaGreatDoorPt
import Derived.Test.YtokpcnppihgdlaaGreatDoorPq
import Derived.Test.YtokpcnppihgdlaaGreatDoorPo
import Derived.Test.YtokpcnppihgdlaaGreatDoorPp
import Derived.Test.YtokpcnppihgdlaaGreatDoorCards
import Derived.Test.YtokpcnppihgdlaaGreatDoorTie
import Derived.SevenTiedAt
namespace Go.Eng
open Go.Proofs Go.RowKit
variable {C : Ctx} [C.Loose]
set_option maxRecDepth 20000
theorem nf_order (m x : MG) (R : AV → List (Nat × AObj) → Prop) : wpFn te [(104, .det S_textR), (105, .det S_numR)] [] 16 Tryz.f76 [.agg [.str m.dev, .int .i64 m.seq, .int .i64 m.kind, .str m.v.o, .str m.v.p, .int .i64 m.v.per, .int .i64 m.v.day, .int .i64 m.v.st, .int .i64 m.v.pr, .str m.v.rep, .str m.d.o, .str m.d.p, .int .i64 m.d.per, .str m.d.dev, .int .i64 m.d.num], .agg [.str x.dev, .int .i64 x.seq, .int .i64 x.kind, .str x.v.o, .str x.v.p, .int .i64 x.v.per, .int .i64 x.v.day, .int .i64 x.v.st, .int .i64 x.v.pr, .str x.v.rep, .str x.d.o, .str x.d.p, .int .i64 x.d.per, .str x.d.dev, .int .i64 x.d.num]] [] R = (letI z0 := [cmpS (MG.dev m) (MG.dev x), cmpI (MG.seq m) (MG.seq x), cmpI (MG.kind m) (MG.kind x), cmpS (VT.o (MG.v m)) (VT.o (MG.v x)), cmpS (VT.p (MG.v m)) (VT.p (MG.v x)), cmpI (VT.per (MG.v m)) (VT.per (MG.v x)), cmpI (VT.day (MG.v m)) (VT.day (MG.v x)), cmpI (VT.st (MG.v m)) (VT.st (MG.v x)), cmpI (VT.pr (MG.v m)) (VT.pr (MG.v x)), cmpS (VT.rep (MG.v m)) (VT.rep (MG.v x)), cmpS (DT.o (MG.d m)) (DT.o (MG.d x)), cmpS (DT.p (MG.d m)) (DT.p (MG.d x)), cmpI (DT.per (MG.d m)) (DT.per (MG.d x)), cmpS (DT.dev (MG.d m)) (DT.dev (MG.d x)), cmpI (DT.num (MG.d m)) (DT.num (MG.d x))]; True ∧ True ∧ True ∧ True ∧ True ∧ True ∧ True ∧ True ∧ True ∧ True ∧ True ∧ True ∧ True ∧ True ∧ True ∧ (15 ≤ 16777216 ∧ 1 = 1 ∧ 15 ≤ 9223372036854775807) ∧ ((0 : Int) ≤ (0 : Int) ∧ (0 : Int) < (↑15 : Int)) ∧ (0 < 15 ∧ 1 = 1) ∧ condP (!decide (List.getD z0 0 (0 : Int) = (0 : Int))) (R (.int .i64 (List.getD z0 0 (0 : Int))) []) (inR .i64 ((0 : Int) + (1 : Int)) ∧ ((0 : Int) ≤ (0 : Int) + (1 : Int) ∧ (0 : Int) + (1 : Int) < (↑15 : Int)) ∧ (1 < 15 ∧ 1 = 1) ∧ condP (!decide (List.getD z0 1 (0 : Int) = (0 : Int))) (R (.int .i64 (List.getD z0 1 (0 : Int))) []) (inR .i64 ((0 : Int) + (1 : Int) + (1 : Int)) ∧ ((0 : Int) ≤ (0 : Int) + (1 : Int) + (1 : Int) ∧ (0 : Int) + (1 : Int) + (1 : Int) < (↑15 : Int)) ∧ (2 < 15 ∧ 1 = 1) ∧ condP (!decide (List.getD z0 2 (0 : Int) = (0 : Int))) (R (.int .i64 (List.getD z0 2 (0 : Int))) []) (inR .i64 ((0 : Int) + (1 : Int) + (1 : Int) + (1 : Int)) ∧ ((0 : Int) ≤ (0 : Int) + (1 : Int) + (1 : Int) + (1 : Int) ∧ (0 : Int) + (1 : Int) + (1 : Int) + (1 : Int) < (↑15 : Int)) ∧ (3 < 15 ∧ 1 = 1) ∧ condP (!decide (List.getD z0 3 (0 : Int) = (0 : Int))) (R (.int .i64 (List.getD z0 3 (0 : Int))) []) (inR .i64 ((0 : Int) + (1 : Int) + (1 : Int) + (1 : Int) + (1 : Int)) ∧ ((0 : Int) ≤ (0 : Int) + (1 : Int) + (1 : Int) + (1 : Int) + (1 : Int) ∧ (0 : Int) + (1 : Int) + (1 : Int) + (1 : Int) + (1 : Int) < (↑15 : Int)) ∧ (4 < 15 ∧ 1 = 1) ∧ condP (!decide (List.getD z0 4 (0 : Int) = (0 : Int))) (R (.int .i64 (List.getD z0 4 (0 : Int))) []) (inR .i64 ((0 : Int) + (1 : Int) + (1 : Int) + (1 : Int) + (1 : Int) + (1 : Int)) ∧ ((0 : Int) ≤ (0 : Int) + (1 : Int) + (1 : Int) + (1 : Int) + (1 : Int) + (1 : Int) ∧ (0 : Int) + (1 : Int) + (1 : Int) + (1 : Int) + (1 : Int) + (1 : Int) < (↑15 : Int)) ∧ (5 < 15 ∧ 1 = 1) ∧ condP (!decide (List.getD z0 5 (0 : Int) = (0 : Int))) (R (.int .i64 (List.getD z0 5 (0 : Int))) []) (inR .i64 ((0 : Int) + (1 : Int) + (1 : Int) + (1 : Int) + (1 : Int) + (1 : Int) + (1 : Int)) ∧ ((0 : Int) ≤ (0 : Int) + (1 : Int) + (1 : Int) + (1 : Int) + (1 : Int) + (1 : Int) + (1 : Int) ∧ (0 : Int) + (1 : Int) + (1 : Int) + (1 : Int) + (1 : Int) + (1 : Int) + (1 : Int) < (↑15 : Int)) ∧ (6 < 15 ∧ 1 = 1) ∧ condP (!decide (List.getD z0 6 (0 : Int) = (0 : Int))) (R (.int .i64 (List.getD z0 6 (0 : Int))) []) (inR .i64 ((0 : Int) + (1 : Int) + (1 : Int) + (1 : Int) + (1 : Int) + (1 : Int) + (1 : Int) + (1 : Int)) ∧ ((0 : Int) ≤ (0 : Int) + (1 : Int) + (1 : Int) + (1 : Int) + (1 : Int) + (1 : Int) + (1 : Int) + (1 : Int) ∧ (0 : Int) + (1 : Int) + (1 : Int) + (1 : Int) + (1 : Int) + (1 : Int) + (1 : Int) + (1 : Int) < (↑15 : Int)) ∧ (7 < 15 ∧ 1 = 1) ∧ condP (!decide (List.getD z0 7 (0 : Int) = (0 : Int))) (R (.int .i64 (List.getD z0 7 (0 : Int))) []) (inR .i64 ((0 : Int) + (1 : Int) + (1 : Int) + (1 : Int) + (1 : Int) + (1 : Int) + (1 : Int) + (1 : Int) + (1 : Int)) ∧ ((0 : Int) ≤ (0 : Int) + (1 : Int) + (1 : Int) + (1 : Int) + (1 : Int) + (1 : Int) + (1 : Int) + (1 : Int) + (1 : Int) ∧ (0 : Int) + (1 : Int) + (1 : Int) + (1 : Int) + (1 : Int) + (1 : Int) + (1 : Int) + (1 : Int) + (1 : Int) < (↑15 : Int)) ∧ (8 < 15 ∧ 1 = 1) ∧ condP (!decide (List.getD z0 8 (0 : Int) = (0 : Int))) (R (.int .i64 (List.getD z0 8 (0 : Int))) []) (inR .i64 ((0 : Int) + (1 : Int) + (1 : Int) + (1 : Int) + (1 : Int) + (1 : Int) + (1 : Int) + (1 : Int) + (1 : Int) + (1 : Int)) ∧ ((0 : Int) ≤ (0 : Int) + (1 : Int) + (1 : Int) + (1 : Int) + (1 : Int) + (1 : Int) + (1 : Int) + (1 : Int) + (1 : Int) + (1 : Int) ∧ (0 : Int) + (1 : Int) + (1 : Int) + (1 : Int) + (1 : Int) + (1 : Int) + (1 : Int) + (1 : Int) + (1 : Int) + (1 : Int) < (↑15 : Int)) ∧ (9 < 15 ∧ 1 = 1) ∧ condP (!decide (List.getD z0 9 (0 : Int) = (0 : Int))) (R (.int .i64 (List.getD z0 9 (0 : Int))) []) (inR .i64 ((0 : Int) + (1 : Int) + (1 : Int) + (1 : Int) + (1 : Int) + (1 : Int) + (1 : Int) + (1 : Int) + (1 : Int) + (1 : Int) + (1 : Int)) ∧ ((0 : Int) ≤ (0 : Int) + (1 : Int) + (1 : Int) + (1 : Int) + (1 : Int) + (1 : Int) + (1 : Int) + (1 : Int) + (1 : Int) + (1 : Int) + (1 : Int) ∧ (0 : Int) + (1 : Int) + (1 : Int) + (1 : Int) + (1 : Int) + (1 : Int) + (1 : Int) + (1 : Int) + (1 : Int) + (1 : Int) + (1 : Int) < (↑15 : Int)) ∧ (10 < 15 ∧ 1 = 1) ∧ condP (!decide (List.getD z0 10 (0 : Int) = (0 : Int))) (R (.int .i64 (List.getD z0 10 (0 : Int))) []) (inR .i64 ((0 : Int) + (1 : Int) + (1 : Int) + (1 : Int) + (1 : Int) + (1 : Int) + (1 : Int) + (1 : Int) + (1 : Int) + (1 : Int) + (1 : Int) + (1 : Int)) ∧ ((0 : Int) ≤ (0 : Int) + (1 : Int) + (1 : Int) + (1 : Int) + (1 : Int) + (1 : Int) + (1 : Int) + (1 : Int) + (1 : Int) + (1 : Int) + (1 : Int) + (1 : Int) ∧ (0 : Int) + (1 : Int) + (1 : Int) + (1 : Int) + (1 : Int) + (1 : Int) + (1 : Int) + (1 : Int) + (1 : Int) + (1 : Int) + (1 : Int) + (1 : Int) < (↑15 : Int)) ∧ (11 < 15 ∧ 1 = 1) ∧ condP (!decide (List.getD z0 11 (0 : Int) = (0 : Int))) (R (.int .i64 (List.getD z0 11 (0 : Int))) []) (inR .i64 ((0 : Int) + (1 : Int) + (1 : Int) + (1 : Int) + (1 : Int) + (1 : Int) + (1 : Int) + (1 : Int) + (1 : Int) + (1 : Int) + (1 : Int) + (1 : Int) + (1 : Int)) ∧ ((0 : Int) ≤ (0 : Int) + (1 : Int) + (1 : Int) + (1 : Int) + (1 : Int) + (1 : Int) + (1 : Int) + (1 : Int) + (1 : Int) + (1 : Int) + (1 : Int) + (1 : Int) + (1 : Int) ∧ (0 : Int) + (1 : Int) + (1 : Int) + (1 : Int) + (1 : Int) + (1 : Int) + (1 : Int) + (1 : Int) + (1 : Int) + (1 : Int) + (1 : Int) + (1 : Int) + (1 : Int) < (↑15 : Int)) ∧ (12 < 15 ∧ 1 = 1) ∧ condP (!decide (List.getD z0 12 (0 : Int) = (0 : Int))) (R (.int .i64 (List.getD z0 12 (0 : Int))) []) (inR .i64 ((0 : Int) + (1 : Int) + (1 : Int) + (1 : Int) + (1 : Int) + (1 : Int) + (1 : Int) + (1 : Int) + (1 : Int) + (1 : Int) + (1 : Int) + (1 : Int) + (1 : Int) + (1 : Int)) ∧ ((0 : Int) ≤ (0 : Int) + (1 : Int) + (1 : Int) + (1 : Int) + (1 : Int) + (1 : Int) + (1 : Int) + (1 : Int) + (1 : Int) + (1 : Int) + (1 : Int) + (1 : Int) + (1 : Int) + (1 : Int) ∧ (0 : Int) + (1 : Int) + (1 : Int) + (1 : Int) + (1 : Int) + (1 : Int) + (1 : Int) + (1 : Int) + (1 : Int) + (1 : Int) + (1 : Int) + (1 : Int) + (1 : Int) + (1 : Int) < (↑15 : Int)) ∧ (13 < 15 ∧ 1 = 1) ∧ condP (!decide (List.getD z0 13 (0 : Int) = (0 : Int))) (R (.int .i64 (List.getD z0 13 (0 : Int))) []) (inR .i64 ((0 : Int) + (1 : Int) + (1 : Int) + (1 : Int) + (1 : Int) + (1 : Int) + (1 : Int) + (1 : Int) + (1 : Int) + (1 : Int) + (1 : Int) + (1 : Int) + (1 : Int) + (1 : Int) + (1 : Int)) ∧ ((0 : Int) ≤ (0 : Int) + (1 : Int) + (1 : Int) + (1 : Int) + (1 : Int) + (1 : Int) + (1 : Int) + (1 : Int) + (1 : Int) + (1 : Int) + (1 : Int) + (1 : Int) + (1 : Int) + (1 : Int) + (1 : Int) ∧ (0 : Int) + (1 : Int) + (1 : Int) + (1 : Int) + (1 : Int) + (1 : Int) + (1 : Int) + (1 : Int) + (1 : Int) + (1 : Int) + (1 : Int) + (1 : Int) + (1 : Int) + (1 : Int) + (1 : Int) < (↑15 : Int)) ∧ (14 < 15 ∧ 1 = 1) ∧ condP (!decide (List.getD z0 14 (0 : Int) = (0 : Int))) (R (.int .i64 (List.getD z0 14 (0 : Int))) []) (inR .i64 ((0 : Int) + (1 : Int) + (1 : Int) + (1 : Int) + (1 : Int) + (1 : Int) + (1 : Int) + (1 : Int) + (1 : Int) + (1 : Int) + (1 : Int) + (1 : Int) + (1 : Int) + (1 : Int) + (1 : Int) + (1 : Int)) ∧ R (.int .i64 0) [])))))))))))))))) := by kernel_rfl
theorem order_ok (hP : C.P = Tryz.prog) : SpecOK C 76 S_mcmp := by
  rintro args objs U Os vc h hvc
  unfold S_mcmp at h
  split at h <;> simp only [Option.some.injEq, Prod.mk.injEq, reduceCtorEq] at h
  rename_i dev seq kind o p per day st pr rep o' p' per' dev' num dev2 seq2 kind2 o2 p2 per2 day2 st2 pr2 rep2 o3 p3 per3 dev3 num2
  obtain ⟨rfl, rfl, rfl⟩ := h
  have hn := nf_order ⟨dev, seq, kind, ⟨o, p, per, day, st, pr, rep⟩, ⟨o', p', per', dev', num⟩⟩ ⟨dev2, seq2, kind2, ⟨o2, p2, per2, day2, st2, pr2, rep2⟩, ⟨o3, p3, per3, dev3, num2⟩⟩
  dsimp only at hn
  refine SpecOK.wp0 (prg hP) [(104, .det S_textR), (105, .det S_numR)] 16 (.cons (textR_ok hP) (.cons (numR_ok hP) .nil)) (hP ▸ Tryz.func76) rfl rfl rfl ?_
  rw [hn]
  unfold ordM
  dsimp only
  generalize cmpS dev dev2 = c0, cmpI seq seq2 = c1, cmpI kind kind2 = c2, cmpS o o2 = c3, cmpS p p2 = c4, cmpI per per2 = c5, cmpI day day2 = c6, cmpI st st2 = c7, cmpI pr pr2 = c8, cmpS rep rep2 = c9, cmpS o' o3 = c10, cmpS p' p3 = c11, cmpI per' per3 = c12, cmpS dev' dev3 = c13, cmpI num num2 = c14
  refine ⟨trivial, trivial, trivial, trivial, trivial, trivial, trivial, trivial, trivial, trivial, trivial, trivial, trivial, trivial, trivial, ⟨by omega, rfl, by omega⟩, ⟨by omega, by omega⟩, ⟨by omega, rfl⟩, ?_⟩
  refine condP_ndec (fun q => ?_) (fun q => ?_)
  · have q : ¬ c0 = 0 := q
    exact ⟨by simp [orL, q], rfl⟩
  have q : c0 = 0 := q
  subst q
  refine ⟨by simp only [inR]; omega, ⟨by omega, by omega⟩, ⟨by omega, rfl⟩, ?_⟩
  refine condP_ndec (fun q => ?_) (fun q => ?_)
  · have q : ¬ c1 = 0 := q
    exact ⟨by simp [orL, q], rfl⟩
  have q : c1 = 0 := q
  subst q
  refine ⟨by simp only [inR]; omega, ⟨by omega, by omega⟩, ⟨by omega, rfl⟩, ?_⟩
  refine condP_ndec (fun q => ?_) (fun q => ?_)
  · have q : ¬ c2 = 0 := q
    exact ⟨by simp [orL, q], rfl⟩
  have q : c2 = 0 := q
  subst q
  refine ⟨by simp only [inR]; omega, ⟨by omega, by omega⟩, ⟨by omega, rfl⟩, ?_⟩
  refine condP_ndec (fun q => ?_) (fun q => ?_)
  · have q : ¬ c3 = 0 := q
    exact ⟨by simp [orL, q], rfl⟩
  have q : c3 = 0 := q
  subst q
  refine ⟨by simp only [inR]; omega, ⟨by omega, by omega⟩, ⟨by omega, rfl⟩, ?_⟩
  refine condP_ndec (fun q => ?_) (fun q => ?_)
  · have q : ¬ c4 = 0 := q
    exact ⟨by simp [orL, q], rfl⟩
  have q : c4 = 0 := q
  subst q
  refine ⟨by simp only [inR]; omega, ⟨by omega, by omega⟩, ⟨by omega, rfl⟩, ?_⟩
  refine condP_ndec (fun q => ?_) (fun q => ?_)
  · have q : ¬ c5 = 0 := q
    exact ⟨by simp [orL, q], rfl⟩
  have q : c5 = 0 := q
  subst q
  refine ⟨by simp only [inR]; omega, ⟨by omega, by omega⟩, ⟨by omega, rfl⟩, ?_⟩
  refine condP_ndec (fun q => ?_) (fun q => ?_)
  · have q : ¬ c6 = 0 := q
    exact ⟨by simp [orL, q], rfl⟩
  have q : c6 = 0 := q
  subst q
  refine ⟨by simp only [inR]; omega, ⟨by omega, by omega⟩, ⟨by omega, rfl⟩, ?_⟩
  refine condP_ndec (fun q => ?_) (fun q => ?_)
  · have q : ¬ c7 = 0 := q
    exact ⟨by simp [orL, q], rfl⟩
  have q : c7 = 0 := q
  subst q
  refine ⟨by simp only [inR]; omega, ⟨by omega, by omega⟩, ⟨by omega, rfl⟩, ?_⟩
  refine condP_ndec (fun q => ?_) (fun q => ?_)
  · have q : ¬ c8 = 0 := q
    exact ⟨by simp [orL, q], rfl⟩
  have q : c8 = 0 := q
  subst q
  refine ⟨by simp only [inR]; omega, ⟨by omega, by omega⟩, ⟨by omega, rfl⟩, ?_⟩
  refine condP_ndec (fun q => ?_) (fun q => ?_)
  · have q : ¬ c9 = 0 := q
    exact ⟨by simp [orL, q], rfl⟩
  have q : c9 = 0 := q
  subst q
  refine ⟨by simp only [inR]; omega, ⟨by omega, by omega⟩, ⟨by omega, rfl⟩, ?_⟩
  refine condP_ndec (fun q => ?_) (fun q => ?_)
  · have q : ¬ c10 = 0 := q
    exact ⟨by simp [orL, q], rfl⟩
  have q : c10 = 0 := q
  subst q
  refine ⟨by simp only [inR]; omega, ⟨by omega, by omega⟩, ⟨by omega, rfl⟩, ?_⟩
  refine condP_ndec (fun q => ?_) (fun q => ?_)
  · have q : ¬ c11 = 0 := q
    exact ⟨by simp [orL, q], rfl⟩
  have q : c11 = 0 := q
  subst q
  refine ⟨by simp only [inR]; omega, ⟨by omega, by omega⟩, ⟨by omega, rfl⟩, ?_⟩
  refine condP_ndec (fun q => ?_) (fun q => ?_)
  · have q : ¬ c12 = 0 := q
    exact ⟨by simp [orL, q], rfl⟩
  have q : c12 = 0 := q
  subst q
  refine ⟨by simp only [inR]; omega, ⟨by omega, by omega⟩, ⟨by omega, rfl⟩, ?_⟩
  refine condP_ndec (fun q => ?_) (fun q => ?_)
  · have q : ¬ c13 = 0 := q
    exact ⟨by simp [orL, q], rfl⟩
  have q : c13 = 0 := q
  subst q
  refine ⟨by simp only [inR]; omega, ⟨by omega, by omega⟩, ⟨by omega, rfl⟩, ?_⟩
  refine condP_ndec (fun q => ?_) (fun q => ?_)
  · have q : ¬ c14 = 0 := q
    exact ⟨by simp [orL, q], rfl⟩
  have q : c14 = 0 := q
  subst q
  exact ⟨by simp only [inR]; omega, rfl, rfl⟩
end Go.Eng
namespace Go.Eng
open Go.Proofs Go.RowKit
variable {C : Ctx} [C.Loose]
set_option maxRecDepth 20000
theorem nf_rmg (g : Nat → MG) (n : Nat) (h : Nat → MG) (m : Nat) (R : AV → List (Nat × AObj) → Prop) : wpFn te [(34, .det S_msg), (76, .det S_mcmp)] [(3, L_rm (catM g n h) (n + m))] 0 Tryz.f39 [.view 15 n (mgRow g), .view 15 m (mgRow h)] [] R = (letI z0 := mfL (catM g n h) (n + m); (0 ≤ 16777216 ∧ 15 = 15 ∧ 0 ≤ 9223372036854775807) ∧ (15 = 15 ∧ 0 ≤ 0 ∧ 15 = 15 ∧ 56 = 56 ∧ 15 = 15 ∧ 0 + n ≤ 9223372036854775807 ∧ (0 + n) * TI.bytes shrt0 ≤ 140737488355328) ∧ (15 = 15 ∧ 0 + n ≤ 0 + n ∧ 15 = 15 ∧ 56 = 56 ∧ 15 = 15 ∧ 0 + n + m ≤ 9223372036854775807 ∧ (0 + n + m) * TI.bytes shrt0 ≤ 140737488355328) ∧ (TEq [(5, .own 0 0), (14, .own 1 (0 + n + m)), (15, .int .i64 (↑(0 + n + m) : Int)), (16, .int .i64 0)] [(5, .own 0 0), (14, .own 1 (n + m)), (15, .int .i64 (↑(n + m) : Int)), (16, .int .i64 (↑0 : Int))] ∧ RowsEq [(0, .row 56 15 0 (fun (_x : Nat) => []) false), (1, .row 56 15 (0 + n + m) (apF (0 + n) (apF 0 (chunkA (TI.sz shrt0) (List.flatten (List.replicate 0 [.str ([]), .int .i64 0, .int .i64 0, .str ([]), .str ([]), .int .i64 0, .int .i64 0, .int .i64 0, .int .i64 0, .str ([]), .str ([]), .str ([]), .int .i64 0, .str ([]), .int .i64 0]))) (mgRow g)) (mgRow h)) false)] [(0, .row 56 15 0 (mgRow (atM (mfL (catM g n h) 0))) false), (1, .row 56 15 (n + m) (mgRow (catM g n h)) false)]) ∧ n + m ≤ 200000 ∧ (∀ (i : Nat), i < n + m → MG.Sm (catM g n h i)) ∧ (∀ (i : Nat), i < List.length z0 → true = true) ∧ ∃ (O' : List (Nat × AObj)), RowsEq [(0, .row 56 15 (List.length z0) (mgRow (atM z0)) false)] O' ∧ R (.own 0 (List.length z0)) O') := by kernel_rfl
theorem nf_rmi_round (L : List MG) (m : MG) (c : Nat → MG) (N k a : Nat) (P : Nat → Prop) (R : Exit → St → Prop) : roundP ⟨te, [(76, .det S_mcmp)], [], 0, 65, 0⟩ (loopB Tryz.f39 7) [5, 7, 8, 14, 15, 16] [5, 7, 8, 14, 15, 16] [] (S_rmi L m c N k) P R (S_rmi L m c N k a) = (letI z2 := ([(5, .own 0 (List.length L)), (7, .ptr 1 0), (8, .int .i64 (↑a : Int)), (14, .own 2 N), (15, .int .i64 (↑N : Int)), (16, .int .i64 (↑k : Int))] : List (Nat × AV)); letI z1 := (atM L (Int.toNat ((↑a : Int) - (1 : Int)))); letI z0 := ([(0, .row 56 15 (List.length L) (mgRow (atM L)) false), (1, .cells [.str (MG.dev m), .int .i64 (MG.seq m), .int .i64 (MG.kind m), .str (VT.o (MG.v m)), .str (VT.p (MG.v m)), .int .i64 (VT.per (MG.v m)), .int .i64 (VT.day (MG.v m)), .int .i64 (VT.st (MG.v m)), .int .i64 (VT.pr (MG.v m)), .str (VT.rep (MG.v m)), .str (DT.o (MG.d m)), .str (DT.p (MG.d m)), .int .i64 (DT.per (MG.d m)), .str (DT.dev (MG.d m)), .int .i64 (DT.num (MG.d m))] 56), (2, .row 56 15 N (mgRow c) false)] : List (Nat × AObj)); condP (decide ((0 : Int) < (↑a : Int))) (inR .i64 ((↑a : Int) - (1 : Int)) ∧ ((0 : Int) ≤ (↑a : Int) - (1 : Int) ∧ (↑a : Int) - (1 : Int) < (↑(List.length L) : Int)) ∧ (Int.toNat ((↑a : Int) - (1 : Int)) < List.length L ∧ 15 = 15) ∧ True ∧ condP (decide (ordM (MG.mk (MG.dev m) (MG.seq m) (MG.kind m) (VT.mk (VT.o (MG.v m)) (VT.p (MG.v m)) (VT.per (MG.v m)) (VT.day (MG.v m)) (VT.st (MG.v m)) (VT.pr (MG.v m)) (VT.rep (MG.v m))) (DT.mk (DT.o (MG.d m)) (DT.p (MG.d m)) (DT.per (MG.d m)) (DT.dev (MG.d m)) (DT.num (MG.d m)))) (MG.mk (MG.dev z1) (MG.seq z1) (MG.kind z1) (VT.mk (VT.o (MG.v z1)) (VT.p (MG.v z1)) (VT.per (MG.v z1)) (VT.day (MG.v z1)) (VT.st (MG.v z1)) (VT.pr (MG.v z1)) (VT.rep (MG.v z1))) (DT.mk (DT.o (MG.d z1)) (DT.p (MG.d z1)) (DT.per (MG.d z1)) (DT.dev (MG.d z1)) (DT.num (MG.d z1)))) < (0 : Int))) (inR .i64 ((↑a : Int) - (1 : Int)) ∧ ∃ (i' : Nat), (TEq [(5, .own 0 (List.length L)), (7, .ptr 1 0), (8, .int .i64 ((↑a : Int) - (1 : Int))), (14, .own 2 N), (15, .int .i64 (↑N : Int)), (16, .int .i64 (↑k : Int))] [(5, .own 0 (List.length L)), (7, .ptr 1 0), (8, .int .i64 (↑i' : Int)), (14, .own 2 N), (15, .int .i64 (↑N : Int)), (16, .int .i64 (↑k : Int))] ∧ RowsEq z0 z0) ∧ P i') ((∀ (i : Nat), i < List.length L → true = true) ∧ (∀ (i : Nat), i < N → true = true) ∧ ∃ (O' : List (Nat × AObj)), RowsEq z0 O' ∧ R (.exit 2) (St.mk z2 O' 3 []))) ((∀ (i : Nat), i < List.length L → true = true) ∧ (∀ (i : Nat), i < N → true = true) ∧ ∃ (O' : List (Nat × AObj)), RowsEq z0 O' ∧ R (.exit 2) (St.mk z2 O' 3 []))) := by kernel_rfl
theorem nf_rm_round (c : Nat → MG) (N k : Nat) (P : Nat → Prop) (R : Exit → St → Prop) : roundP ⟨te, [(34, .det S_msg), (76, .det S_mcmp)], [(7, L_rmi (mfL c k) (c k) c N k)], 0, 65, 0⟩ (loopB Tryz.f39 3) [5, 14, 15, 16] [5] [] (S_rm c N) P R (S_rm c N k) = (letI z10 := mgRow (atM (mfL c k)); letI z6 := List.length (mfL c k); letI z8 := ([(5, .own 0 z6), (7, .ptr 1 0), (8, .int .i64 (↑z6 : Int)), (14, .own 2 N), (15, .int .i64 (↑N : Int)), (16, .int .i64 (↑k : Int))] : List (Nat × AV)); letI z4 := (inR .i64 ((↑k : Int) + (1 : Int)) ∧ ∃ (i' : Nat), (TEq [(5, .own 0 z6), (14, .own 1 N), (15, .int .i64 (↑N : Int)), (16, .int .i64 ((↑k : Int) + (1 : Int)))] [(5, .own 0 (List.length (mfL c i'))), (14, .own 1 N), (15, .int .i64 (↑N : Int)), (16, .int .i64 (↑i' : Int))] ∧ RowsEq [(0, .row 56 15 z6 z10 false), (1, .row 56 15 N (mgRow c) false)] [(0, .row 56 15 (List.length (mfL c i')) (mgRow (atM (mfL c i'))) false), (1, .row 56 15 N (mgRow c) false)]) ∧ P i'); letI z2 := (c (Int.toNat (↑k : Int))); letI z0 := (↑(dnM (mfL c k) (c k) z6) : Int); letI z13 := Int.toNat z0 ≤ List.length (mfL c k) ∧ 15 = 15; letI z14 := z13 ∧ 0 ≤ 0 ∧ 15 = 15 ∧ 56 = 56 ∧ 15 = 15 ∧ 0 + Int.toNat z0 ≤ 9223372036854775807 ∧ (0 + Int.toNat z0) * TI.bytes shrt0 ≤ 140737488355328; letI z7 := List.length (mfL c k) - Int.toNat z0; letI z11 := Int.toNat z0 + z7 ≤ List.length (mfL c k) ∧ 15 = 15 ∧ 15 = 15; letI z12 := z11 ∧ 0 + Int.toNat z0 + 1 ≤ 0 + Int.toNat z0 + 1 ∧ 15 = 15 ∧ 56 = 56 ∧ 15 = 15 ∧ 0 + Int.toNat z0 + 1 + z7 ≤ 9223372036854775807 ∧ (0 + Int.toNat z0 + 1 + z7) * TI.bytes shrt0 ≤ 140737488355328; letI z9 := ([(5, .own 0 (0 + Int.toNat z0 + 1 + z7)), (14, .own 1 N), (15, .int .i64 (↑N : Int)), (16, .int .i64 ((↑k : Int) + (1 : Int)))] : List (Nat × AV)); letI z3 := (atM (mfL c k) (Int.toNat (z0 - (1 : Int)))); letI z1 := ([(0, .row 56 15 (0 + Int.toNat z0 + 1 + z7) (apF (0 + Int.toNat z0 + 1) (apF (0 + Int.toNat z0) (apF 0 (chunkA (TI.sz shrt0) (List.flatten (List.replicate 0 [.str ([]), .int .i64 0, .int .i64 0, .str ([]), .str ([]), .int .i64 0, .int .i64 0, .int .i64 0, .int .i64 0, .str ([]), .str ([]), .str ([]), .int .i64 0, .str ([]), .int .i64 0]))) z10) (chunkA (TI.sz shrt0) (.str (MG.dev (c k)) :: .int .i64 (MG.seq (c k)) :: .int .i64 (MG.kind (c k)) :: .str (VT.o (MG.v (c k))) :: .str (VT.p (MG.v (c k))) :: .int .i64 (VT.per (MG.v (c k))) :: .int .i64 (VT.day (MG.v (c k))) :: .int .i64 (VT.st (MG.v (c k))) :: .int .i64 (VT.pr (MG.v (c k))) :: .str (VT.rep (MG.v (c k))) :: .str (DT.o (MG.d (c k))) :: .str (DT.p (MG.d (c k))) :: .int .i64 (DT.per (MG.d (c k))) :: .str (DT.dev (MG.d (c k))) :: .int .i64 (DT.num (MG.d (c k))) :: List.append [] shrt1))) fun (i : Nat) => letI z5 := atM (mfL c k) (Int.toNat z0 + i); [.str (MG.dev z5), .int .i64 (MG.seq z5), .int .i64 (MG.kind z5), .str (VT.o (MG.v z5)), .str (VT.p (MG.v z5)), .int .i64 (VT.per (MG.v z5)), .int .i64 (VT.day (MG.v z5)), .int .i64 (VT.st (MG.v z5)), .int .i64 (VT.pr (MG.v z5)), .str (VT.rep (MG.v z5)), .str (DT.o (MG.d z5)), .str (DT.p (MG.d z5)), .int .i64 (DT.per (MG.d z5)), .str (DT.dev (MG.d z5)), .int .i64 (DT.num (MG.d z5))]) false), (1, .row 56 15 N (mgRow c) false)] : List (Nat × AObj)); condP (decide ((↑k : Int) < (↑N : Int))) (((0 : Int) ≤ (↑k : Int) ∧ (↑k : Int) < (↑N : Int)) ∧ (Int.toNat (↑k : Int) < N ∧ 15 = 15) ∧ (List.length (MG.dev z2) < 4294967281 ∧ List.length (VT.o (MG.v z2)) < 4294967281 ∧ List.length (DT.o (MG.d z2)) < 4294967281 ∧ List.length (DT.dev (MG.d z2)) < 4294967281) ∧ condP (!decide (msgF (MG.mk (MG.dev z2) (MG.seq z2) (MG.kind z2) (VT.mk (VT.o (MG.v z2)) (VT.p (MG.v z2)) (VT.per (MG.v z2)) (VT.day (MG.v z2)) (VT.st (MG.v z2)) (VT.pr (MG.v z2)) (VT.rep (MG.v z2))) (DT.mk (DT.o (MG.d z2)) (DT.p (MG.d z2)) (DT.per (MG.d z2)) (DT.dev (MG.d z2)) (DT.num (MG.d z2)))) = (0 : Int))) z4 ((TEq z8 z8 ∧ RowsEq [(0, .row 56 15 z6 z10 false), (1, .cells [.str (MG.dev z2), .int .i64 (MG.seq z2), .int .i64 (MG.kind z2), .str (VT.o (MG.v z2)), .str (VT.p (MG.v z2)), .int .i64 (VT.per (MG.v z2)), .int .i64 (VT.day (MG.v z2)), .int .i64 (VT.st (MG.v z2)), .int .i64 (VT.pr (MG.v z2)), .str (VT.rep (MG.v z2)), .str (DT.o (MG.d z2)), .str (DT.p (MG.d z2)), .int .i64 (DT.per (MG.d z2)), .str (DT.dev (MG.d z2)), .int .i64 (DT.num (MG.d z2))] 56), (2, .row 56 15 N (mgRow c) false)] [(0, .row 56 15 z6 z10 false), (1, .cells [.str (MG.dev (c k)), .int .i64 (MG.seq (c k)), .int .i64 (MG.kind (c k)), .str (VT.o (MG.v (c k))), .str (VT.p (MG.v (c k))), .int .i64 (VT.per (MG.v (c k))), .int .i64 (VT.day (MG.v (c k))), .int .i64 (VT.st (MG.v (c k))), .int .i64 (VT.pr (MG.v (c k))), .str (VT.rep (MG.v (c k))), .str (DT.o (MG.d (c k))), .str (DT.p (MG.d (c k))), .int .i64 (DT.per (MG.d (c k))), .str (DT.dev (MG.d (c k))), .int .i64 (DT.num (MG.d (c k)))] 56), (2, .row 56 15 N (mgRow c) false)]) ∧ List.length (mfL c k) ≤ 200000 ∧ condP (decide ((0 : Int) < z0)) (inR .i64 (z0 - (1 : Int)) ∧ ((0 : Int) ≤ z0 - (1 : Int) ∧ z0 - (1 : Int) < (↑z6 : Int)) ∧ (Int.toNat (z0 - (1 : Int)) < List.length (mfL c k) ∧ 15 = 15) ∧ condP (decide (MG.dev z3 = MG.dev (c k)) && (decide (MG.seq z3 = MG.seq (c k)) && (decide (MG.kind z3 = MG.kind (c k)) && (decide (VT.o (MG.v z3) = VT.o (MG.v (c k))) && (decide (VT.p (MG.v z3) = VT.p (MG.v (c k))) && (decide (VT.per (MG.v z3) = VT.per (MG.v (c k))) && (decide (VT.day (MG.v z3) = VT.day (MG.v (c k))) && (decide (VT.st (MG.v z3) = VT.st (MG.v (c k))) && (decide (VT.pr (MG.v z3) = VT.pr (MG.v (c k))) && decide (VT.rep (MG.v z3) = VT.rep (MG.v (c k)))))))) && (decide (DT.o (MG.d z3) = DT.o (MG.d (c k))) && (decide (DT.p (MG.d z3) = DT.p (MG.d (c k))) && (decide (DT.per (MG.d z3) = DT.per (MG.d (c k))) && (decide (DT.dev (MG.d z3) = DT.dev (MG.d (c k))) && decide (DT.num (MG.d z3) = DT.num (MG.d (c k))))))))))) z4 ((0 ≤ 16777216 ∧ 15 = 15 ∧ 0 ≤ 9223372036854775807) ∧ ((0 : Int) ≤ z0 ∧ z0 ≤ (↑z6 : Int)) ∧ z14 ∧ (15 ≤ 16777216 ∧ 15 = 15 ∧ 1 ≤ 9223372036854775807) ∧ ((1 ≤ 1 ∧ 15 = 15) ∧ 0 + Int.toNat z0 ≤ 0 + Int.toNat z0 ∧ 15 = 15 ∧ 56 = 56 ∧ 15 = 15 ∧ 0 + Int.toNat z0 + 1 ≤ 9223372036854775807 ∧ (0 + Int.toNat z0 + 1) * TI.bytes shrt0 ≤ 140737488355328) ∧ ((0 : Int) ≤ z0 ∧ z0 ≤ (↑z6 : Int)) ∧ z12 ∧ inR .i64 ((↑k : Int) + (1 : Int)) ∧ ∃ (i' : Nat), (TEq z9 [(5, .own 0 (List.length (mfL c i'))), (14, .own 1 N), (15, .int .i64 (↑N : Int)), (16, .int .i64 (↑i' : Int))] ∧ RowsEq z1 [(0, .row 56 15 (List.length (mfL c i')) (mgRow (atM (mfL c i'))) false), (1, .row 56 15 N (mgRow c) false)]) ∧ P i')) ((0 ≤ 16777216 ∧ 15 = 15 ∧ 0 ≤ 9223372036854775807) ∧ ((0 : Int) ≤ z0 ∧ z0 ≤ (↑z6 : Int)) ∧ z14 ∧ (15 ≤ 16777216 ∧ 15 = 15 ∧ 1 ≤ 9223372036854775807) ∧ ((1 ≤ 1 ∧ 15 = 15) ∧ 0 + Int.toNat z0 ≤ 0 + Int.toNat z0 ∧ 15 = 15 ∧ 56 = 56 ∧ 15 = 15 ∧ 0 + Int.toNat z0 + 1 ≤ 9223372036854775807 ∧ (0 + Int.toNat z0 + 1) * TI.bytes shrt0 ≤ 140737488355328) ∧ ((0 : Int) ≤ z0 ∧ z0 ≤ (↑z6 : Int)) ∧ z12 ∧ inR .i64 ((↑k : Int) + (1 : Int)) ∧ ∃ (i' : Nat), (TEq z9 [(5, .own 0 (List.length (mfL c i'))), (14, .own 1 N), (15, .int .i64 (↑N : Int)), (16, .int .i64 (↑i' : Int))] ∧ RowsEq z1 [(0, .row 56 15 (List.length (mfL c i')) (mgRow (atM (mfL c i'))) false), (1, .row 56 15 N (mgRow c) false)]) ∧ P i'))) ((∀ (i : Nat), i < List.length (mfL c k) → true = true) ∧ ∃ (O' : List (Nat × AObj)), RowsEq [(0, .row 56 15 z6 z10 false)] O' ∧ R (.exit 0) (St.mk [(5, .own 0 z6)] O' 1 []))) := by kernel_rfl
theorem dnM_le (L : List MG) (m : MG) : ∀ a, dnM L m a ≤ a
  | 0 => Nat.le_refl _
  | a + 1 => by
    rw [dnM]
    cases decide (ordM m (atM L a) < 0) with
    | true => have := dnM_le L m a; show dnM L m a ≤ a + 1; omega
    | false => exact Nat.le_refl _
theorem dnM_hi (L : List MG) (m : MG) : ∀ a i, dnM L m a ≤ i → i < a → ordM m (atM L i) < 0
  | 0, i, _, h => absurd h (Nat.not_lt_zero _)
  | a + 1, i, h1, h2 => by
    rw [dnM] at h1
    by_cases q : ordM m (atM L a) < 0
    · rw [decide_eq_true q] at h1
      by_cases e : i = a
      · rw [e]; exact q
      · exact dnM_hi L m a i h1 (by omega)
    · rw [decide_eq_false q] at h1
      have h1 : a + 1 ≤ i := h1
      omega
theorem dnM_lo (L : List MG) (m : MG) : ∀ a, dnM L m a = 0 ∨ ¬ ordM m (atM L (dnM L m a - 1)) < 0
  | 0 => .inl rfl
  | a + 1 => by
    rw [dnM]
    by_cases q : ordM m (atM L a) < 0
    · rw [decide_eq_true q]; exact dnM_lo L m a
    · rw [decide_eq_false q]; exact .inr q
theorem mfL_succ (c : Nat → MG) (k : Nat) : mfL c (k + 1) = bif okM (c k) then insM (mfL c k) (c k) else mfL c k := by
  unfold mfL
  rw [lst_snocM, mrgF_snoc]
theorem mfL_len (c : Nat → MG) (k : Nat) : (mfL c k).length ≤ k := by
  have := mrgF_len (lst c k)
  have e : (lst c k).length = k := by simp [lst]
  unfold mfL; omega
theorem lst_catM (g : Nat → MG) (n : Nat) (h : Nat → MG) (m : Nat) : lst (catM g n h) (n + m) = lst g n ++ lst h m := by
  apply List.ext_getElem
  · simp [lst]
  · intro i h1 h2
    have hi : i < n + m := by simpa [lst] using h1
    by_cases q : i < n
    · rw [List.getElem_append_left (by simp [lst, q])]
      simp [lst, catM, q]
    · rw [List.getElem_append_right (by simp [lst]; omega)]
      simp [lst, catM, q]
theorem rmi_loop (hP : C.P = Tryz.prog) (L : List MG) (m : MG) (c : Nat → MG) (N k : Nat) : LoopOK C 0 65 (loopC Tryz.f39 7) (L_rmi L m c N k) := by
  rintro st Q ⟨h0, hn, hQ⟩
  refine LoopOK.mk (prg hP) [(76, .det S_mcmp)] 0 (.cons (order_ok hP) .nil) [5, 7, 8, 14, 15, 16] [5, 7, 8, 14, 15, 16] [] (S_rmi L m c N k) (fun a => a ≤ L.length ∧ dnM L m a = dnM L m L.length) (fun a => a) L.length ⟨Nat.le_refl _, rfl⟩ h0 (fun a ha => ?_) (fun i => ⟨fun _ _ => rfl, fun _ _ => rfl, trivial⟩)
  obtain ⟨ha, hd⟩ := ha
  rw [nf_rmi_round]
  refine condP_dec (fun q => ?_) (fun q => ?_)
  · obtain ⟨b, rfl⟩ : ∃ b, a = b + 1 := ⟨a - 1, by omega⟩
    have e : (((b + 1 : Nat) : Int) - 1).toNat = b := by omega
    have hb : ((b + 1 : Nat) : Int) - 1 = (b : Int) := by omega
    rw [e, hb]
    refine ⟨by simp only [inR]; omega, ⟨by omega, by omega⟩, ⟨by omega, rfl⟩, trivial, condP_dec (fun q2 => ?_) (fun q2 => ?_)⟩
    · have q2 : ordM m (atM L b) < 0 := q2
      exact ⟨by simp only [inR]; omega, b, ⟨rfl, rowsEqR _⟩, ⟨by omega, by rw [← hd, dnM, decide_eq_true q2]; rfl⟩, by omega⟩
    · have q2 : ¬ ordM m (atM L b) < 0 := q2
      have e2 : dnM L m L.length = b + 1 := by rw [← hd, dnM, decide_eq_false q2]; rfl
      rw [e2] at hQ
      exact ⟨fun _ _ => rfl, fun _ _ => rfl, _, rowsEqR _, hQ⟩
  · have e0 : a = 0 := by omega
    subst e0
    have e2 : dnM L m L.length = 0 := hd.symm
    rw [e2] at hQ
    exact ⟨fun _ _ => rfl, fun _ _ => rfl, _, rowsEqR _, hQ⟩
theorem rm_loop (hP : C.P = Tryz.prog) (c : Nat → MG) (N : Nat) : LoopOK C 0 65 (loopC Tryz.f39 3) (L_rm c N) := by
  rintro st Q ⟨h0, hn, hs, hQ⟩
  refine AWP.ownNil 5 56 15 ?_
  refine LoopOK.mkI (prg hP) [(34, .det S_msg), (76, .det S_mcmp)] (fun k : Nat => [(7, L_rmi (mfL c k) (c k) c N k)]) 0 (.cons (msgR_ok hP) (.cons (order_ok hP) .nil))
    (fun k => [(loopC Tryz.f39 7, L_rmi (mfL c k) (c k) c N k)])
    (fun k => by kernel_rfl) (fun k => ⟨rmi_loop hP _ _ _ _ _, trivial⟩) [5, 14, 15, 16] [5] [] (S_rm c N) (fun k => k ≤ N) (fun k => N - k) 0 (Nat.zero_le _) h0 (fun k hk => ?_) (fun i => ⟨fun _ _ => rfl, fun _ _ => rfl, trivial⟩)
  rw [nf_rm_round, Int.toNat_natCast, Int.toNat_natCast]
  have hsu := mfL_succ c k
  have hlen := mfL_len c k
  have hasc : Asc ordM (mfL c k) := mrgF_asc _
  have hple := dnM_le (mfL c k) (c k) (mfL c k).length
  have hhi := dnM_hi (mfL c k) (c k) (mfL c k).length
  have hlo := dnM_lo (mfL c k) (c k) (mfL c k).length
  refine condP_dec (fun h1 => ?_) (fun h1 => ?_)
  · have hkN : k < N := by omega
    have hk := hs k hkN
    generalize hL : mfL c k = L at *
    generalize hx : c k = x at *
    generalize dnM L x L.length = p at *
    have no : mfL c (k + 1) = L → inR .i64 ((k : Int) + 1) ∧ ∃ i' : Nat, (TEq [(5, .own 0 L.length), (14, .own 1 N), (15, .int .i64 (N : Int)), (16, .int .i64 ((k : Int) + 1))] [(5, .own 0 (mfL c i').length), (14, .own 1 N), (15, .int .i64 (N : Int)), (16, .int .i64 (i' : Int))] ∧
        RowsEq [(0, .row 56 15 L.length (mgRow (atM L)) false), (1, .row 56 15 N (mgRow c) false)] [(0, .row 56 15 (mfL c i').length (mgRow (atM (mfL c i'))) false), (1, .row 56 15 N (mgRow c) false)]) ∧ (i' ≤ N ∧ N - i' < N - k) := fun e => ⟨by simp only [inR]; omega, k + 1, by rw [e]; exact ⟨rfl, rowsEqR _⟩, by omega, by omega⟩
    refine ⟨⟨by omega, by omega⟩, ⟨by omega, rfl⟩, ⟨hk.a, hk.b, hk.c, hk.d⟩, condP_ndec (fun q => ?_) (fun q => ⟨⟨rfl, rowsEqR _⟩, by omega, ?_⟩)⟩
    · have q : ¬ msgF x = 0 := q
      exact no (by rw [hsu, show okM x = false from decide_eq_false q]; rfl)
    · have q : msgF x = 0 := q
      have hins := insM_at hasc (m := x) (a := p) hple hhi hlo
      rw [show okM x = true from decide_eq_true q] at hsu
      have hsu : mfL c (k + 1) = insM L x := hsu
      have e1 : ((p : Int) - 1).toNat = p - 1 := by omega
      rw [e1]
      have hlen2 : (L.take p ++ x :: L.drop p).length = 0 + p + 1 + (L.length - p) := by simp; omega
      refine condP_dec (fun h2 => ⟨by simp only [inR]; omega, ⟨by omega, by omega⟩, ⟨by omega, rfl⟩, condP_intro (fun h3 => ?_) (fun h3 => ?_)⟩) (fun h2 => ?_)
      · have h3 : eqM (atM L (p - 1)) x = true := h3
        rw [decide_eq_true (show 0 < p by omega), h3] at hins
        exact no (hsu.trans hins)
      all_goals
        have eM : mfL c (k + 1) = L.take p ++ x :: L.drop p := by
          rw [hsu, hins]
          first
            | (rw [decide_eq_false (show ¬ 0 < p by omega)]; rfl)
            | (rw [show eqM (atM L (p - 1)) x = false from h3, Bool.and_false]; rfl)
        refine ⟨⟨by omega, rfl, by omega⟩, ⟨by omega, by omega⟩, ⟨⟨by omega, rfl⟩, Nat.le_refl _, rfl, rfl, rfl, by omega, ?_⟩, ⟨by omega, rfl, by omega⟩, ⟨⟨Nat.le_refl _, rfl⟩, Nat.le_refl _, rfl, rfl, rfl, by omega, ?_⟩, ⟨by omega, by omega⟩, ⟨⟨by omega, rfl, rfl⟩, Nat.le_refl _, rfl, rfl, rfl, by omega, ?_⟩, by simp only [inR]; omega, k + 1, ?_, by omega, by omega⟩
        · show (0 + p) * 176 ≤ _
          omega
        · show (0 + p + 1) * 176 ≤ _
          omega
        · show (0 + p + 1 + (L.length - p)) * 176 ≤ _
          omega
        · rw [eM]
          refine ⟨by rw [hlen2]; rfl, ⟨rfl, rfl, rfl, hlen2.symm, rfl, fun j hj => ?_⟩, ⟨rfl, rfl, rfl, rfl, rfl, fun _ _ => rfl⟩, trivial⟩
          exact insRow mgC L x p hple _ _ rfl j hj
  · have : k = N := by omega
    subst this
    exact ⟨fun _ _ => rfl, _, rowsEqR _, hQ⟩
theorem mrgR_ok (hP : C.P = Tryz.prog) : SpecOK C 39 S_mrgV := by
  rintro args objs U Os vc hh hvc
  unfold S_mrgV at hh
  split at hh <;> simp only [Option.some.injEq, Prod.mk.injEq, reduceCtorEq] at hh
  rename_i n f m h
  obtain ⟨rfl, rfl, rfl⟩ := hh
  obtain ⟨hn, hm, hf, hh, s1, s2⟩ := hvc
  generalize mgOf f = g at *
  generalize mgOf h = j at *
  subst hf; subst hh
  refine ACalls.frzO 0 ?_
  refine RSpecOK.wpL (prg hP) [(34, .det S_msg), (76, .det S_mcmp)] [(3, L_rm (catM g n j) (n + m))] 0 (.cons (msgR_ok hP) (.cons (order_ok hP) .nil)) (hP ▸ Tryz.func39) rfl rfl rfl [(loopC Tryz.f39 3, L_rm (catM g n j) (n + m))] (by kernel_rfl) ⟨rm_loop hP _ _, trivial⟩ ?_
  rw [nf_rmg, Nat.zero_add]
  have hM : mfL (catM g n j) (n + m) = mrgL g n j m := by unfold mfL mrgL; rw [lst_catM]
  have hg : mgOf (mgRow g) = g := rfl
  have hj : mgOf (mgRow j) = j := rfl
  rw [hM]
  have sm : ∀ i, i < n + m → (catM g n j i).Sm := fun i hi => by
    unfold catM
    by_cases q : i < n
    · rw [if_pos q]; exact s1 i q
    · rw [if_neg q]; exact s2 _ (by omega)
  refine ⟨⟨by omega, rfl, by omega⟩, ⟨rfl, Nat.zero_le _, rfl, rfl, rfl, by omega, ?_⟩, ⟨rfl, Nat.le_refl _, rfl, rfl, rfl, by omega, ?_⟩, ⟨rfl, ⟨rfl, rfl, rfl, rfl, rfl, fun i hi => absurd hi (Nat.not_lt_zero i)⟩, ⟨rfl, rfl, rfl, rfl, rfl, fun i hi => ?_⟩, trivial⟩, by omega, sm, fun _ _ => rfl, _, rowsEqR _, fun _ _ => rfl, ?_⟩
  · show n * 176 ≤ _
    omega
  · show (n + m) * 176 ≤ _
    omega
  · unfold apF mgRow catM
    by_cases q : i < n
    · rw [if_pos q, if_neg (Nat.not_lt_zero i), if_pos q, Nat.sub_zero]
    · rw [if_neg q, if_neg q]
  · have hb : Nat.ble (mrgL g n j m).length (mrgL g n j m).length = true := Nat.ble_eq_true_of_le (Nat.le_refl _)
    constructor
    · simp [frzC, frzA, frz, hb]
    · rfl
end Go.Eng
namespace Go.Eng
theorem cutM_sm (g : Nat → MG) (i : Nat) : (cutM g i).Sm := by
  refine ⟨?_, ?_, ?_, ?_⟩
  · show ((g i).dev.take 30).length < _
    rw [List.length_take]; omega
  · show ((g i).v.o.take 30).length < _
    rw [List.length_take]; omega
  · show ((g i).d.o.take 30).length < _
    rw [List.length_take]; omega
  · show ((g i).d.dev.take 30).length < _
    rw [List.length_take]; omega
end Go.Eng
namespace Go.Eng
open Go.Proofs Go.RowKit
variable {C : Ctx} [C.Loose]
set_option maxRecDepth 20000
theorem nf_lcm (na : Nat) (ga : Nat → MG) (nb : Nat) (gb : Nat → MG) (n : Nat) (v : Nat → Int) (R : AV → List (Nat × AObj) → Prop) : wpFn te [(36, .rel R_list), (32, .det S_raw11), (38, .det S_mrgV), (39, .det S_mrgV), (37, .det S_sameM), (35, .det S_awake11)] [] 0 Tryz.f8 [.view 15 na (mgRow ga), .view 15 nb (mgRow gb), .view 1 n (intRow v)] [] R = (letI z5 := cutM (mgOf (mgRow gb)); letI z4 := cutM (mgOf (mgRow ga)); letI z2 := (min na 12 ≤ 100000 ∧ min nb 12 ≤ 100000 ∧ mgRow z4 = mgRow (mgOf (mgRow z4)) ∧ mgRow z5 = mgRow (mgOf (mgRow z5)) ∧ (∀ (i : Nat), i < min na 12 → MG.Sm (mgOf (mgRow z4) i)) ∧ ∀ (i : Nat), i < min nb 12 → MG.Sm (mgOf (mgRow z5) i)); letI z0 := mrgL (mgOf (mgRow z4)) (min na 12) (mgOf (mgRow z5)) (min nb 12); letI z6 := mgOf (mgRow (atM z0)); 28 = 28 ∧ 1 = 1 ∧ intRow v = intRow (vInt (intRow v)) ∧ ((0 : Int) ≤ (0 : Int) ∧ (0 : Int) ≤ (4611686018427360000 : Int)) ∧ ∀ (c : Nat) (g : Nat → MG) (a' : Int), c ≤ 12 → (0 : Int) ≤ a' ∧ a' ≤ (0 : Int) + (1100 : Int) → (∀ (j : Nat), j < c → MG.Sm (g j)) → 28 = 28 ∧ 1 = 1 ∧ intRow v = intRow (vInt (intRow v)) ∧ ((0 : Int) ≤ a' ∧ a' ≤ (4611686018427360000 : Int)) ∧ ∀ (c_1 : Nat) (g_1 : Nat → MG) (a'_1 : Int), letI z3 := (c ≤ 100000 ∧ c_1 ≤ 100000 ∧ mgRow g = mgRow (mgOf (mgRow g)) ∧ mgRow g_1 = mgRow (mgOf (mgRow g_1)) ∧ (∀ (i : Nat), i < c → MG.Sm (mgOf (mgRow g) i)) ∧ ∀ (i : Nat), i < c_1 → MG.Sm (mgOf (mgRow g_1) i)); letI z1 := mrgL (mgOf (mgRow g)) c (mgOf (mgRow g_1)) c_1; letI z7 := mgOf (mgRow (atM z1)); c_1 ≤ 12 → a' ≤ a'_1 ∧ a'_1 ≤ a' + (1100 : Int) → (∀ (j : Nat), j < c_1 → MG.Sm (g_1 j)) → mgRow ga = mgRow (mgOf (mgRow ga)) ∧ mgRow gb = mgRow (mgOf (mgRow gb)) ∧ z2 ∧ z2 ∧ (List.length z0 ≤ 1000000 ∧ mgRow (atM z0) = mgRow z6 ∧ mgRow (atM z0) = mgRow z6) ∧ condP (decide (List.length z0 = List.length z0) && eqMs z6 z6 (List.length z0)) (z3 ∧ z3 ∧ (List.length z1 ≤ 1000000 ∧ mgRow (atM z1) = mgRow z7 ∧ mgRow (atM z1) = mgRow z7) ∧ condP (decide (List.length z1 = List.length z1) && eqMs z7 z7 (List.length z1)) (True ∧ R (.bool true) []) (R (.bool false) [])) (R (.bool false) [])) := by kernel_rfl
theorem lcm_ok (hP : C.P = Tryz.prog) (hL : ∀ w, C.laid w → LaidW w) (na : Nat) (ga : Nat → MG) (nb : Nat) (gb : Nat → MG) (n : Nat) (v : Nat → Int) : ADet C 8 [.view 15 na (mgRow ga), .view 15 nb (mgRow gb), .view 1 n (intRow v)] [] (.bool true) [] := by
  refine SpecOK.wpL (prg hP) [(36, .rel R_list), (32, .det S_raw11), (38, .det S_mrgV), (39, .det S_mrgV), (37, .det S_sameM), (35, .det S_awake11)] [] 0
    (.cons (list_ok hP) (.cons (raw11_ok hP) (.cons (mrgV_ok hP hL) (.cons (mrgR_ok hP) (.cons (sameM_ok hP) (.cons (awake11_ok hP hL) .nil)))))) (hP ▸ Tryz.func8) rfl rfl rfl [] (by kernel_rfl) trivial ?_
  rw [nf_lcm]
  have tel : ∀ g : Nat → MG, mgOf (mgRow g) = g := fun _ => rfl
  simp only [tel]
  refine ⟨trivial, trivial, rfl, by omega, fun nc gc a1 hc h1 sc => ⟨trivial, trivial, rfl, by omega, fun nd gd a2 hd h2 sd => ?_⟩⟩
  have eqs : ∀ {f : Nat → MG} {k : Nat}, (decide True && eqMs f f k) = false → False := fun q => by rw [eqMs_self, decide_eq_true trivial] at q; cases q
  have n1 := mrgL_len (cutM ga) (min na 12) (cutM gb) (min nb 12)
  have n2 := mrgL_len gc nc gd nd
  have sa : ∀ i, i < min na 12 → (cutM ga i).Sm := fun i _ => cutM_sm ga i
  have sb : ∀ i, i < min nb 12 → (cutM gb i).Sm := fun i _ => cutM_sm gb i
  have f1 : (mrgL (cutM ga) (min na 12) (cutM gb) (min nb 12)).length ≤ 1000000 := by omega
  have f2 : (mrgL gc nc gd nd).length ≤ 1000000 := by omega
  refine ⟨trivial, trivial, ⟨by omega, by omega, trivial, trivial, sa, sb⟩, ⟨by omega, by omega, trivial, trivial, sa, sb⟩, ⟨f1, trivial, trivial⟩, condP_intro (fun _ => ?_) (fun q => (eqs q).elim)⟩
  exact ⟨⟨by omega, by omega, trivial, trivial, sc, sd⟩, ⟨by omega, by omega, trivial, trivial, sc, sd⟩, ⟨f2, trivial, trivial⟩, condP_intro (fun _ => ⟨trivial, trivial, trivial⟩) (fun q => (eqs q).elim)⟩
end Go.Eng
namespace Go.Eng
open Go.Proofs Go.RowKit Go.ChangeShapes Go.WideShapes Go.ChangeAt
theorem params_Cm : Tryz.f8.params = #[58, 58, 23] := by kernel_rfl
set_option maxRecDepth 100000 in
theorem lifted_Cm (os : Os) (started : os.Started) (H : Type) (enc : TypeId × Value → H) :
    ReturnsInHanded {} Tryz.checked os 8 .any (fun w args => (Go.Proofs.YtokpcnppihgdlaaGreatDoor.Rows.collectionMergesSpec.pre enc Tryz.prog Tryz.f8 [] false w args ∧ laidMetH Tryz.prog Go.Proofs.YtokpcnppihgdlaaGreatDoor.Rows.collectionMergesRow.laid w) ∧ sizedMet enc Tryz.prog Tryz.f8 (OpenSpec.ofChange Go.Proofs.YtokpcnppihgdlaaGreatDoor.Rows.collectionMergesSpec) false w args)
      (Go.Proofs.YtokpcnppihgdlaaGreatDoor.Rows.collectionMergesSpec.post enc Tryz.prog Tryz.f8 false true false false) := by
  refine handed_and_shaped (C := Tryz.checked) (X := fun w _ => laidMetH Tryz.prog Go.Proofs.YtokpcnppihgdlaaGreatDoor.Rows.collectionMergesRow.laid w) (fun _ _ _ hh h => h.of_heap hh) ownK started (by kernel_rfl) Tryz.func8
    (ChangeSpec.witness_at (enc := enc) (C := Tryz.checked) (os := os) (X := fun w _ => laidMetH Tryz.prog Go.Proofs.YtokpcnppihgdlaaGreatDoor.Rows.collectionMergesRow.laid w) false (laidWorld os) #[.slice none 0 0, .slice none 0 0, .slice none 0 0] 8 rfl (by kernel_rfl) (by kernel_rfl) (by kernel_rfl) (by kernel_rfl) (by kernel_rfl) (laid_met os _)) ?_
  intro W base args ds gs before hval0 hW hL hsh
  have hval : ∀ (j : Nat) t v, Tryz.f8.params[j]? = some t → args[j]? = some v → Value.okWide Tryz.prog W .any base t v := hval0
  have hW' := hW
  obtain ⟨p, q, hA0, hV, rfl, hfz, hnd⟩ := hW
  have hA : DataW.TrodAll enc Tryz.prog W 0 (fun _ => true) true Tryz.f8.params.toList args.toList ds p := hA0
  rw [params_Cm] at hA hval
  obtain ⟨v0, vs0, d0, ds0, p0, q0, hargs, rfl, rfl, h0, r0⟩ := trodAll_cons hA
  obtain ⟨v1, vs1, d1, ds1, p1, q1, rfl, rfl, rfl, h1, r1⟩ := trodAll_cons r0
  obtain ⟨v2, vs2, d2, ds2, p2, q2, rfl, rfl, rfl, h2, r2⟩ := trodAll_cons r1
  obtain ⟨rfl, rfl, rfl⟩ := trodAll_nil r2
  obtain rfl : args = #[v0, v1, v2] := by cases args; simp_all
  obtain ⟨rfl, rfl⟩ := trodVars_none hV
  obtain ⟨a0, len0, cap0, rfl⟩ := okWide_slice undMs (hval 0 58 v0 rfl rfl)
  obtain ⟨a1, len1, cap1, rfl⟩ := okWide_slice undMs (hval 1 58 v1 rfl rfl)
  obtain ⟨a2, len2, cap2, rfl⟩ := okWide_slice undIs (hval 2 23 v2 rfl rfl)
  have k0 := h0
  have k1 := h1
  have k2 := h2
  have lt0 : ∀ x ∈ p0, x.block < W.heap.size := by obtain ⟨m, hm⟩ := k0; exact DataW.trod_lt m _ _ _ hm
  have lt1 : ∀ x ∈ p1, x.block < W.heap.size := by obtain ⟨m, hm⟩ := k1; exact DataW.trod_lt m _ _ _ hm
  have lt2 : ∀ x ∈ p2, x.block < W.heap.size := by obtain ⟨m, hm⟩ := k2; exact DataW.trod_lt m _ _ _ hm
  obtain ⟨m0, hm0⟩ := h0
  obtain ⟨m1, hm1⟩ := h1
  obtain ⟨m2, hm2⟩ := h2
  obtain ⟨A0, n0, c0, w0, e0, V0⟩ := read_msgs hm0
  have e0 : [Value.slice a0 len0 cap0] = [Value.slice A0 n0 c0] := e0
  simp only [List.cons.injEq, and_true] at e0
  rw [← e0] at V0
  obtain ⟨A1, n1, c1, w1, e1, V1⟩ := read_msgs hm1
  have e1 : [Value.slice a1 len1 cap1] = [Value.slice A1 n1 c1] := e1
  simp only [List.cons.injEq, and_true] at e1
  rw [← e1] at V1
  obtain ⟨A2, n2, c2, w2, e2, V2⟩ := read_ints hm2
  have e2 : [Value.slice a2 len2 cap2] = [Value.slice A2 n2 c2] := e2
  simp only [List.cons.injEq, and_true] at e2
  rw [← e2] at V2
  have lw := laidW_of hL hsh
  refine (ADet.top (C := cx) (lcm_ok rfl (fun _ h => h) n0 w0 n1 w1 n2 w2) lw (gsz_le lw) (cargs := [.slice a0 len0 cap0, .slice a1 len1 cap1, .slice a2 len2 cap2]) rfl (fun j x u hx hu => ?_)).mono fun e W' ⟨he, bel⟩ => ?_
  · match j with
    | 0 => obtain rfl := Option.some.inj hx; obtain rfl := Option.some.inj hu; exact V0
    | 1 => obtain rfl := Option.some.inj hx; obtain rfl := Option.some.inj hu; exact V1
    | 2 => obtain rfl := Option.some.inj hx; obtain rfl := Option.some.inj hu; exact V2
    | j + 3 => simp at hx
  · subst he
    exact ⟨_, rfl, _, _, _, [], _, [], hW', trodAll_mk1 (shut_bool (show Tryz.prog.underlying 4 = some .bool by kernel_rfl) _), (trodAll_cons_mk (Below.trod laidOut (by kernel_rfl) (of_decide_eq_true (by kernel_rfl)) k0 bel lt0) (trodAll_cons_mk (Below.trod laidOut (by kernel_rfl) (of_decide_eq_true (by kernel_rfl)) k1 bel lt1) (trodAll_cons_mk (Below.trod laidOut (by kernel_rfl) (of_decide_eq_true (by kernel_rfl)) k2 bel lt2) trodAll_mk0))), rfl, bel.frame _, fun h => by cases h⟩
set_option maxRecDepth 100000 in
set_option maxHeartbeats 8000000 in
theorem closed_Cm : joinedFacts Tryz.prog 8 Tryz.f8 Go.Proofs.YtokpcnppihgdlaaGreatDoor.Rows.collectionMergesSpec Go.Proofs.YtokpcnppihgdlaaGreatDoor.Rows.collectionMergesRow = true := by
  unfold joinedFacts
  simp only [Bool.and_eq_true]
  exact ⟨⟨⟨⟨⟨⟨⟨⟨⟨⟨⟨⟨⟨⟨⟨⟨⟨⟨⟨⟨⟨⟨⟨⟨⟨⟨⟨⟨⟨⟨⟨(by as_aux_lemma => kernel_rfl), laidOut⟩, mapsB⟩, by as_aux_lemma => kernel_rfl⟩, by as_aux_lemma => kernel_rfl⟩, by as_aux_lemma => kernel_rfl⟩, by as_aux_lemma => kernel_rfl⟩, by as_aux_lemma => kernel_rfl⟩, by as_aux_lemma => kernel_rfl⟩, by as_aux_lemma => kernel_rfl⟩, by as_aux_lemma => kernel_rfl⟩, by as_aux_lemma => kernel_rfl⟩, by as_aux_lemma => kernel_rfl⟩, by as_aux_lemma => kernel_rfl⟩, by as_aux_lemma => kernel_rfl⟩, by as_aux_lemma => kernel_rfl⟩, by as_aux_lemma => kernel_rfl⟩, by as_aux_lemma => kernel_rfl⟩, by as_aux_lemma => kernel_rfl⟩, by as_aux_lemma => kernel_rfl⟩, by as_aux_lemma => kernel_rfl⟩, by as_aux_lemma => kernel_rfl⟩, plainB⟩, by as_aux_lemma => kernel_rfl⟩, heardB⟩, enterB⟩, liftB⟩, by as_aux_lemma => kernel_rfl⟩, by as_aux_lemma => kernel_rfl⟩, by as_aux_lemma => kernel_rfl⟩, by as_aux_lemma => kernel_rfl⟩, by as_aux_lemma => kernel_rfl⟩
set_option maxRecDepth 100000 in
theorem inst_Cm : Tryz.f8.isInstance Tryz.prog Go.Proofs.YtokpcnppihgdlaaGreatDoor.Rows.collectionMergesRow.origin Go.Proofs.YtokpcnppihgdlaaGreatDoor.Rows.collectionMergesRow.targs := of_decide_eq_true (by kernel_rfl)
set_option maxRecDepth 100000 in
theorem over_Cm : Go.Proofs.YtokpcnppihgdlaaGreatDoor.Rows.collectionMergesRow.holds Go.Proofs.YtokpcnppihgdlaaGreatDoor.Tryz.pinned (OpenSpec.ofChange Go.Proofs.YtokpcnppihgdlaaGreatDoor.Rows.collectionMergesSpec) :=
  OpenClaim.holds_of_wide 8 Tryz.f8 rfl rfl rfl rfl rfl rfl rfl ⟨rfl, rfl, rfl, rfl, rfl⟩ rfl rfl rfl rfl rfl (by kernel_rfl) Tryz.func8 closed_Cm
    inst_Cm (by unfold Func.isWrapper; rw [if_neg (of_decide_eq_false (by kernel_rfl))]; exact ⟨rfl, rfl⟩)
    (fun os started H enc _ => lifted_Cm os started H enc)
end Go.Eng
namespace Go.Proofs.YtokpcnppihgdlaaGreatDoor
open Go
def harB : Bool × String := (true, "9fc102e4074b6cbfcb17ff81fe27951d79d0a08a23044dbb02ad96fa3f9cf2ef")
set_option maxRecDepth 100000 in
theorem mainB : Tryz.prog.mainIs = some (harB.1, harB.2.toList) := by kernel_rfl
set_option maxRecDepth 100000 in
theorem looksB : true = Tryz.prog.looks [] := by kernel_rfl
end Go.Proofs.YtokpcnppihgdlaaGreatDoor
namespace Go.Proofs.YtokpcnppihgdlaaGreatDoor
open Go
set_option maxRecDepth 100000 in
theorem wf_Cm : Rows.collectionMergesRow.wfByText (OpenSpec.ofChange Rows.collectionMergesSpec) = true := by kernel_rfl
set_option maxRecDepth 100000 in
theorem goes_Cm : false = Rows.collectionMergesRow.goesBy Tryz.prog := by kernel_rfl
theorem named_Cm : Tryz.prog.funcNamed "priceoffice/priceofficelaw11.CollectionMerges" = some 8 := by kernel_rfl
theorem stand_Cm0 : Tryz.prog.wantsStandIn 58 = false := by kernel_rfl
theorem stand_Cm1 : Tryz.prog.wantsStandIn 23 = false := by kernel_rfl
theorem card_Cm : Rows.CollectionMergesCardSaid :=
  Claim7.holds_tied_plain_at .later [] [.data, .data, .data, .data, .sentinel, .sentinel, .pinned] true harB true
    Go.Eng.over_Cm (fun _ h => by cases h) wf_Cm (fun _ h => by cases h) collectionMerges_row_tie rfl ⟨rfl, rfl⟩ mainB rfl
    (fun f fn hf hfn => by
      obtain rfl : f = 8 := Option.some.inj (named_Cm.symm.trans hf) |>.symm
      obtain rfl : fn = Tryz.f8 := (Option.some.inj (Tryz.func8.symm.trans hfn)).symm
      exact ⟨looksB, fun j t ht => by
        rw [Go.Eng.params_Cm] at ht
        have h3 : t = 58 ∨ t = 58 ∨ t = 23 := by
          rcases j with _ | _ | _ | j
          · exact .inl (by simpa using ht.symm)
          · exact .inr (.inl (by simpa using ht.symm))
          · exact .inr (.inr ((by simpa using ht.symm)))
          · simp at ht
        rcases h3 with rfl | rfl | rfl
        · exact stand_Cm0
        · exact stand_Cm0
        · exact stand_Cm1⟩)
    goes_Cm
end Go.Proofs.YtokpcnppihgdlaaGreatDoor
