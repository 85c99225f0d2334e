/- Lemmas that the tied card of ScannerTurnover is proved by. -/
import Derived.Test.YtokpcnppihgdlaaGreatDoorJp
import Derived.Test.YtokpcnppihgdlaaGreatDoorJv
import Derived.Test.YtokpcnppihgdlaaGreatDoorJo
import Derived.Test.YtokpcnppihgdlaaGreatDoorJt
/- Turnovers and coverage: what they answer. -/
namespace Go.Eng
open Go.Proofs Go.RowKit
variable {C : Ctx} [C.Loose]
set_option maxRecDepth 20000
theorem nf_turn (g : Nat → RW) (d : Int) (n : Nat) (R : AV → List (Nat × AObj) → Prop) : wpFn te [(19, .det S_sval)] [(5, L_tv g d n)] 0 Tryz.f61 [.view 5 n (rwRow g), .int .i64 d] [] R = ((n ≤ 1000000 ∧ rwRow g = rwRow (rwOf (rwRow g)) ∧ ∀ (i : Nat), i < n → List.length (RW.o (rwOf (rwRow g) i)) < 4294967281) ∧ condP (!decide (svF (rwOf (rwRow g)) n = (0 : Int))) (R (.map 0) [(0, .amap (List.map (fun (p : AV × AV) => (AV.rn (ren 0 [(0, 0)]) (Prod.fst p), AV.rn (ren 0 [(0, 0)]) (Prod.snd p))) []))]) (some (St.mk [(1, .int .i64 d), (5, .map 0), (13, .view 5 n (rwRow g)), (14, .int .i64 (↑n : Int)), (15, .int .i64 0)] [(0, .amap (List.map (fun (p : AV × AV) => (AV.rn (ren 0 [(0, 0)]) (Prod.fst p), AV.rn (ren 0 [(0, 0)]) (Prod.snd p))) []))] 1 []) = some (St.mk [(1, .int .i64 d), (5, .map 0), (13, .view 5 n (rwRow g)), (14, .int .i64 (↑n : Int)), (15, .int .i64 (↑0 : Int))] [(0, .amap (entP (tvL g d 0)))] 1 []) ∧ n ≤ 24000 ∧ (∀ (i : Nat), i < n → rowF (g i) = true) ∧ R (.map 0) [(0, .amap (List.map (fun (p : AV × AV) => (AV.rn (ren 0 [(0, 0)]) (Prod.fst p), AV.rn (ren 0 [(0, 0)]) (Prod.snd p))) (entP (tvL g d n))))])) := by kernel_rfl
theorem nf_tv_round (g : Nat → RW) (d : Int) (n k : Nat) (P : Nat → Prop) (R : Exit → St → Prop) : roundP ⟨te, [], [], 0, 32, 0⟩ (loopB Tryz.f61 5) [1, 5, 13, 14, 15] [5] [] (S_tv g d n) P R (S_tv g d n k) = (condP (decide ((↑k : Int) < (↑n : Int))) (((0 : Int) ≤ (↑k : Int) ∧ (↑k : Int) < (↑n : Int) ∧ 5 = 5) ∧ condP (decide (RW.per (g (Int.toNat (↑k : Int))) = d)) ((KeysOK (TI.desc (TI.mk TypeDesc.string 1 16 (Value.string (ByteArray.mk #[])) false)) (entP (tvL g d k)) ∧ .int .i64 (intOf (Option.getD (mget (entP (tvL g d k)) (.str (RW.p (g (Int.toNat (↑k : Int)))))) (.int .i64 0))) = Option.getD (mget (entP (tvL g d k)) (.str (RW.p (g (Int.toNat (↑k : Int)))))) (.int .i64 0)) ∧ inR .i64 (intOf (Option.getD (mget (entP (tvL g d k)) (.str (RW.p (g (Int.toNat (↑k : Int)))))) (.int .i64 0)) + RW.tv (g (Int.toNat (↑k : Int)))) ∧ KeysOK (TI.desc (TI.mk TypeDesc.string 1 16 (Value.string (ByteArray.mk #[])) false)) (entP (tvL g d k)) ∧ inR .i64 ((↑k : Int) + (1 : Int)) ∧ ∃ (i' : Nat), some (St.mk [(1, .int .i64 d), (5, .map 0), (13, .view 5 n (rwRow g)), (14, .int .i64 (↑n : Int)), (15, .int .i64 ((↑k : Int) + (1 : Int)))] [(0, .amap (List.map (fun (p : AV × AV) => (AV.rn (ren 0 [(0, 0)]) (Prod.fst p), AV.rn (ren 0 [(0, 0)]) (Prod.snd p))) (mset (entP (tvL g d k)) (.str (RW.p (g (Int.toNat (↑k : Int))))) (.int .i64 (intOf (Option.getD (mget (entP (tvL g d k)) (.str (RW.p (g (Int.toNat (↑k : Int)))))) (.int .i64 0)) + RW.tv (g (Int.toNat (↑k : Int))))))))] 1 []) = some (St.mk [(1, .int .i64 d), (5, .map 0), (13, .view 5 n (rwRow g)), (14, .int .i64 (↑n : Int)), (15, .int .i64 (↑i' : Int))] [(0, .amap (entP (tvL g d i')))] 1 []) ∧ P i') (inR .i64 ((↑k : Int) + (1 : Int)) ∧ ∃ (i' : Nat), some (St.mk [(1, .int .i64 d), (5, .map 0), (13, .view 5 n (rwRow g)), (14, .int .i64 (↑n : Int)), (15, .int .i64 ((↑k : Int) + (1 : Int)))] [(0, .amap (List.map (fun (p : AV × AV) => (AV.rn (ren 0 [(0, 0)]) (Prod.fst p), AV.rn (ren 0 [(0, 0)]) (Prod.snd p))) (entP (tvL g d k))))] 1 []) = some (St.mk [(1, .int .i64 d), (5, .map 0), (13, .view 5 n (rwRow g)), (14, .int .i64 (↑n : Int)), (15, .int .i64 (↑i' : Int))] [(0, .amap (entP (tvL g d i')))] 1 []) ∧ P i')) (R (.exit 0) (St.mk [(5, .map 0)] [(0, .amap (List.map (fun (p : AV × AV) => (AV.rn (ren 0 [(0, 0)]) (Prod.fst p), AV.rn (ren 0 [(0, 0)]) (Prod.snd p))) (entP (tvL g d k))))] 1 []))) := by kernel_rfl
theorem nf_cov (g : Nat → RW) (n : Nat) (h : Nat → PR) (m : Nat) (d : Int) (R : AV → List (Nat × AObj) → Prop) : wpFn te [(61, .det S_turn), (62, .det S_findV)] [(3, L_co (tvF g d n) h m)] 0 Tryz.f28 [.view 5 n (rwRow g), .view 7 m (pdRow h), .int .i64 d] [] R = ((n ≤ 1000000 ∧ rwRow g = rwRow (rwOf (rwRow g)) ∧ ∀ (i : Nat), i < n → List.length (RW.o (rwOf (rwRow g) i)) < 4294967281) ∧ some (St.mk [(1, .view 7 m (pdRow h)), (8, .int .i64 0), (9, .int .i64 0), (17, .ptr 0 0)] [(0, .miter 1 (List.length (List.map (fun (p : AV × AV) => (AV.rn (sig [] 0) (Prod.fst p), AV.rn (sig [] 0) (Prod.snd p))) (entP (tvF (rwOf (rwRow g)) d n)))) (98 :: List.length (List.map (fun (p : AV × AV) => (AV.rn (sig [] 0) (Prod.fst p), AV.rn (sig [] 0) (Prod.snd p))) (entP (tvF (rwOf (rwRow g)) d n))) :: List.range (List.length (List.map (fun (p : AV × AV) => (AV.rn (sig [] 0) (Prod.fst p), AV.rn (sig [] 0) (Prod.snd p))) (entP (tvF (rwOf (rwRow g)) d n)))))), (1, .amap (List.map (fun (p : AV × AV) => (AV.rn (ren 0 [(16, 0), (0, 1)]) (Prod.fst p), AV.rn (ren 0 [(16, 0), (0, 1)]) (Prod.snd p))) (List.map (fun (p : AV × AV) => (AV.rn (sig [] 0) (Prod.fst p), AV.rn (sig [] 0) (Prod.snd p))) (entP (tvF (rwOf (rwRow g)) d n)))))] 2 []) = some (St.mk [(1, .view 7 m (pdRow h)), (8, .int .i64 (CT.a (CT.mk (0 : Int) (0 : Int) (List.length (entP (tvF g d n))) (List.range (List.length (entP (tvF g d n))))))), (9, .int .i64 (CT.b (CT.mk (0 : Int) (0 : Int) (List.length (entP (tvF g d n))) (List.range (List.length (entP (tvF g d n))))))), (17, .ptr 0 0)] [(0, .miter 1 (List.length (entP (tvF g d n))) (98 :: CT.c0 (CT.mk (0 : Int) (0 : Int) (List.length (entP (tvF g d n))) (List.range (List.length (entP (tvF g d n))))) :: CT.left (CT.mk (0 : Int) (0 : Int) (List.length (entP (tvF g d n))) (List.range (List.length (entP (tvF g d n))))))), (1, .amap (entP (tvF g d n)))] 2 []) ∧ List.Nodup (List.map Prod.fst (tvF g d n)) ∧ (∀ (x : List UInt8 × Int), x ∈ tvF g d n → (0 : Int) ≤ Prod.snd x) ∧ sumK (fun (x : List UInt8) => true) (tvF g d n) ≤ (26388279066624000 : Int) ∧ (m ≤ 1000 ∧ ∀ (i : Nat), i < m → PR.Short (h i)) ∧ R (.tuple [.int .i64 (sumK (knownF h m) (tvF g d n)), .int .i64 (sumK (fun (x : List UInt8) => true) (tvF g d n))]) []) := by kernel_rfl
theorem nf_co_round (L : List (List UInt8 × Int)) (h : Nat → PR) (m : Nat) (i : CT) (P : CT → Prop) (R : Exit → St → Prop) : roundP ⟨te, [(62, .det S_findV)], [], 0, 38, 0⟩ (loopB Tryz.f28 3) [1, 8, 9, 17] [8, 9] [] (S_co L h m) P R (S_co L h m i) = (List.length (entP L) = List.length (entP L) ∧ (CT.left i = [] → R (.exit 0) (St.mk [(8, .int .i64 (CT.a i)), (9, .int .i64 (CT.b i))] [] 0 [])) ∧ ∀ (i_1 : Nat), i_1 ∈ CT.left i → (List.length (entP L) = List.length (entP L) ∧ i_1 < List.length (entP L) ∧ .str (strOf (Prod.fst (List.getD (entP L) i_1 (.any, .any)))) = Prod.fst (List.getD (entP L) i_1 (.any, .any)) ∧ .int .i64 (intOf (Prod.snd (List.getD (entP L) i_1 (.any, .any)))) = Prod.snd (List.getD (entP L) i_1 (.any, .any))) ∧ (m ≤ 1000 ∧ pdRow h = pdRow (prOf (pdRow h)) ∧ ∀ (i : Nat), i < m → PR.Short (prOf (pdRow h) i)) ∧ condP (decide (firstId (prOf (pdRow h)) (strOf (Prod.fst (List.getD (entP L) i_1 (.any, .any)))) m < m)) (inR .i64 (CT.a i + intOf (Prod.snd (List.getD (entP L) i_1 (.any, .any)))) ∧ inR .i64 (CT.b i + intOf (Prod.snd (List.getD (entP L) i_1 (.any, .any)))) ∧ ∃ (i' : CT), some (St.mk [(1, .view 7 m (pdRow h)), (8, .int .i64 (CT.a i + intOf (Prod.snd (List.getD (entP L) i_1 (.any, .any))))), (9, .int .i64 (CT.b i + intOf (Prod.snd (List.getD (entP L) i_1 (.any, .any))))), (17, .ptr 0 0)] [(0, .miter 1 (List.length (entP L)) (98 :: i_1 :: List.erase (CT.left i) i_1)), (1, .amap (List.map (fun (p : AV × AV) => (AV.rn (ren 0 [(0, 0), (1, 1)]) (Prod.fst p), AV.rn (ren 0 [(0, 0), (1, 1)]) (Prod.snd p))) (entP L)))] 2 []) = some (St.mk [(1, .view 7 m (pdRow h)), (8, .int .i64 (CT.a i')), (9, .int .i64 (CT.b i')), (17, .ptr 0 0)] [(0, .miter 1 (List.length (entP L)) (98 :: CT.c0 i' :: CT.left i')), (1, .amap (entP L))] 2 []) ∧ P i') (inR .i64 (CT.b i + intOf (Prod.snd (List.getD (entP L) i_1 (.any, .any)))) ∧ ∃ (i' : CT), some (St.mk [(1, .view 7 m (pdRow h)), (8, .int .i64 (CT.a i)), (9, .int .i64 (CT.b i + intOf (Prod.snd (List.getD (entP L) i_1 (.any, .any))))), (17, .ptr 0 0)] [(0, .miter 1 (List.length (entP L)) (98 :: i_1 :: List.erase (CT.left i) i_1)), (1, .amap (List.map (fun (p : AV × AV) => (AV.rn (ren 0 [(0, 0), (1, 1)]) (Prod.fst p), AV.rn (ren 0 [(0, 0), (1, 1)]) (Prod.snd p))) (entP L)))] 2 []) = some (St.mk [(1, .view 7 m (pdRow h)), (8, .int .i64 (CT.a i')), (9, .int .i64 (CT.b i')), (17, .ptr 0 0)] [(0, .miter 1 (List.length (entP L)) (98 :: CT.c0 i' :: CT.left i')), (1, .amap (entP L))] 2 []) ∧ P i')) := by kernel_rfl
theorem nf_covR (g : Nat → RW) (n : Nat) (h : Nat → PR) (m : Nat) (d : Int) (R : AV → List (Nat × AObj) → Prop) : wpFn te [(20, .det S_sval), (63, .det S_findV)] [(5, L_cR g h n m d)] 0 Tryz.f29 [.view 5 n (rwRow g), .view 7 m (pdRow h), .int .i64 d] [] R = ((n ≤ 1000000 ∧ rwRow g = rwRow (rwOf (rwRow g)) ∧ ∀ (i : Nat), i < n → List.length (RW.o (rwOf (rwRow g) i)) < 4294967281) ∧ condP (!decide (svF (rwOf (rwRow g)) n = (0 : Int))) (R (.tuple [.int .i64 0, .int .i64 0]) []) (some (St.mk [(1, .view 7 m (pdRow h)), (2, .int .i64 d), (8, .int .i64 0), (9, .int .i64 0), (17, .view 5 n (rwRow g)), (18, .int .i64 (↑n : Int)), (19, .int .i64 0)] [] 0 []) = some (St.mk [(1, .view 7 m (pdRow h)), (2, .int .i64 d), (8, .int .i64 (covS (knownF h m) g d 0)), (9, .int .i64 (covS (fun (x : List UInt8) => true) g d 0)), (17, .view 5 n (rwRow g)), (18, .int .i64 (↑n : Int)), (19, .int .i64 (↑0 : Int))] [] 0 []) ∧ n ≤ 24000 ∧ (∀ (i : Nat), i < n → rowF (g i) = true) ∧ (m ≤ 1000 ∧ ∀ (i : Nat), i < m → PR.Short (h i)) ∧ R (.tuple [.int .i64 (covS (knownF h m) g d n), .int .i64 (covS (fun (x : List UInt8) => true) g d n)]) [])) := by kernel_rfl
theorem nf_cR_round (g : Nat → RW) (h : Nat → PR) (n m : Nat) (d : Int) (k : Nat) (P : Nat → Prop) (R : Exit → St → Prop) : roundP ⟨te, [(63, .det S_findV)], [], 0, 46, 0⟩ (loopB Tryz.f29 5) [1, 2, 8, 9, 17, 18, 19] [8, 9] [] (S_cR g h n m d) P R (S_cR g h n m d k) = (condP (decide ((↑k : Int) < (↑n : Int))) (((0 : Int) ≤ (↑k : Int) ∧ (↑k : Int) < (↑n : Int) ∧ 5 = 5) ∧ condP (!decide (RW.per (g (Int.toNat (↑k : Int))) = d)) (inR .i64 ((↑k : Int) + (1 : Int)) ∧ ∃ (i' : Nat), some (St.mk [(1, .view 7 m (pdRow h)), (2, .int .i64 d), (8, .int .i64 (covS (knownF h m) g d k)), (9, .int .i64 (covS (fun (x : List UInt8) => true) g d k)), (17, .view 5 n (rwRow g)), (18, .int .i64 (↑n : Int)), (19, .int .i64 ((↑k : Int) + (1 : Int)))] [] 0 []) = some (St.mk [(1, .view 7 m (pdRow h)), (2, .int .i64 d), (8, .int .i64 (covS (knownF h m) g d i')), (9, .int .i64 (covS (fun (x : List UInt8) => true) g d i')), (17, .view 5 n (rwRow g)), (18, .int .i64 (↑n : Int)), (19, .int .i64 (↑i' : Int))] [] 0 []) ∧ P i') (inR .i64 (covS (fun (x : List UInt8) => true) g d k + RW.tv (g (Int.toNat (↑k : Int)))) ∧ (m ≤ 1000 ∧ pdRow h = pdRow (prOf (pdRow h)) ∧ ∀ (i : Nat), i < m → PR.Short (prOf (pdRow h) i)) ∧ condP (decide (firstId (prOf (pdRow h)) (RW.p (g (Int.toNat (↑k : Int)))) m < m)) (inR .i64 (covS (knownF h m) g d k + RW.tv (g (Int.toNat (↑k : Int)))) ∧ inR .i64 ((↑k : Int) + (1 : Int)) ∧ ∃ (i' : Nat), some (St.mk [(1, .view 7 m (pdRow h)), (2, .int .i64 d), (8, .int .i64 (covS (knownF h m) g d k + RW.tv (g (Int.toNat (↑k : Int))))), (9, .int .i64 (covS (fun (x : List UInt8) => true) g d k + RW.tv (g (Int.toNat (↑k : Int))))), (17, .view 5 n (rwRow g)), (18, .int .i64 (↑n : Int)), (19, .int .i64 ((↑k : Int) + (1 : Int)))] [] 0 []) = some (St.mk [(1, .view 7 m (pdRow h)), (2, .int .i64 d), (8, .int .i64 (covS (knownF h m) g d i')), (9, .int .i64 (covS (fun (x : List UInt8) => true) g d i')), (17, .view 5 n (rwRow g)), (18, .int .i64 (↑n : Int)), (19, .int .i64 (↑i' : Int))] [] 0 []) ∧ P i') (inR .i64 ((↑k : Int) + (1 : Int)) ∧ ∃ (i' : Nat), some (St.mk [(1, .view 7 m (pdRow h)), (2, .int .i64 d), (8, .int .i64 (covS (knownF h m) g d k)), (9, .int .i64 (covS (fun (x : List UInt8) => true) g d k + RW.tv (g (Int.toNat (↑k : Int))))), (17, .view 5 n (rwRow g)), (18, .int .i64 (↑n : Int)), (19, .int .i64 ((↑k : Int) + (1 : Int)))] [] 0 []) = some (St.mk [(1, .view 7 m (pdRow h)), (2, .int .i64 d), (8, .int .i64 (covS (knownF h m) g d i')), (9, .int .i64 (covS (fun (x : List UInt8) => true) g d i')), (17, .view 5 n (rwRow g)), (18, .int .i64 (↑n : Int)), (19, .int .i64 (↑i' : Int))] [] 0 []) ∧ P i'))) (R (.exit 0) (St.mk [(8, .int .i64 (covS (knownF h m) g d k)), (9, .int .i64 (covS (fun (x : List UInt8) => true) g d k))] [] 0 []))) := by kernel_rfl
theorem nf_turnover (g : Nat → RW) (n : Nat) (d : Int) (R : AV → List (Nat × AObj) → Prop) : wpFn te [(28, .det S_covN)] [] 0 Tryz.f30 [.view 5 n (rwRow g), .int .i64 d] [] R = ((n ≤ 1000000 ∧ rwRow g = rwRow (rwOf (rwRow g)) ∧ ∀ (i : Nat), i < n → List.length (RW.o (rwOf (rwRow g) i)) < 4294967281) ∧ R (.int .i64 (cov2 (rwOf (rwRow g)) n d)) []) := by kernel_rfl

theorem keq_str (a b : List UInt8) : keq (.str a) (.str b) = decide (a = b) := by simp [keq, keqL, keq0]
theorem mget_entP (p : List UInt8) : ∀ L : List (List UInt8 × Int), Option.getD (mget (entP L) (.str p)) (.int .i64 0) = .int .i64 (getP L p)
  | [] => rfl
  | x :: l => by
    rw [getP]
    show Option.getD (match keq (.str x.1) (.str p) with | true => some (.int .i64 x.2) | false => mget (entP l) (.str p)) _ = _
    rw [keq_str]
    cases decide (x.1 = p) with
    | true => rfl
    | false => exact mget_entP p l
theorem mset_entP (p : List UInt8) (v : Int) : ∀ L : List (List UInt8 × Int), mset (entP L) (.str p) (.int .i64 (getP L p + v)) = entP (addP L p v)
  | [] => by
    show [(AV.str p, AV.int .i64 (0 + v))] = [(AV.str p, AV.int .i64 v)]
    rw [Int.zero_add]
  | x :: l => by
    rw [getP, addP]
    show (match keq (.str x.1) (.str p) with | true => (AV.str p, _) :: entP l | false => (AV.str x.1, AV.int .i64 x.2) :: mset (entP l) (.str p) _) = _
    rw [keq_str]
    by_cases h : x.1 = p
    · rw [decide_eq_true h]
      show (AV.str p, AV.int .i64 (x.2 + v)) :: entP l = (AV.str x.1, AV.int .i64 (x.2 + v)) :: entP l
      rw [h]
    · rw [decide_eq_false h]
      show _ :: mset (entP l) (.str p) (.int .i64 (getP l p + v)) = _ :: entP (addP l p v)
      rw [mset_entP p v l]
theorem entP_rn (σ : Nat → Option Nat) (L : List (List UInt8 × Int)) : (entP L).map (fun p => (AV.rn σ p.1, AV.rn σ p.2)) = entP L := by
  unfold entP
  rw [List.map_map]
  rfl
theorem entP_len (L : List (List UInt8 × Int)) : (entP L).length = L.length := by simp [entP]
theorem entP_at {L : List (List UInt8 × Int)} {i : Nat} (h : i < L.length) : (entP L).getD i (.any, .any) = (.str (atP L i).1, .int .i64 (atP L i).2) := by
  simp [entP, atP, h]
theorem entP_keys {L : List (List UInt8 × Int)} (h : (L.map Prod.fst).Nodup) : KeysOK .string (entP L) := by
  refine ⟨List.all_eq_true.2 fun p hp => ?_, ?_⟩
  · obtain ⟨r, _, rfl⟩ := List.mem_map.1 hp
    rfl
  · have : (entP L).map Prod.fst = (L.map Prod.fst).map AV.str := by simp [entP]
    rw [this]
    exact List.pairwise_map.2 (h.imp fun {a b} hab he => hab (AV.str.inj he))

theorem tv_loop (hP : C.P = Tryz.prog) (g : Nat → RW) (d : Int) (n : Nat) : LoopOK C 0 32 (loopC Tryz.f61 5) (L_tv g d n) := by
  have _ : C.Loose := inferInstance
  rintro st Q ⟨h0, hn, hr, hQ⟩
  refine LoopOK.mk (prg hP) [] 0 .nil [1, 5, 13, 14, 15] [5] [] (S_tv g d n) (fun k => k ≤ n) (fun k => n - k) 0 (Nat.zero_le _) h0 (fun k hk => ?_)
  rw [nf_tv_round, Int.toNat_natCast]
  refine condP_dec (fun h1 => ?_) (fun h1 => ?_)
  · refine ⟨⟨by omega, by omega, rfl⟩, condP_dec (fun h2 => ?_) (fun h2 => ?_)⟩
    · have hm := mget_entP (g k).p (tvL g d k)
      have hset := mset_entP (g k).p (g k).tv (tvL g d k)
      have hb := rowF_bounds (hr k (by omega))
      have hpos := tvL_pos (g := g) d (n := k) fun i hi => by have := rowF_bounds (hr i (by omega)); omega
      have hg := getP_le (fun _ => true) (g k).p hpos
      have hc := covS_le (g := g) (B := 1099511627776) (fun _ => true) d (n := k) fun i hi => by have := rowF_bounds (hr i (by omega)); omega
      rw [sumK_tvL] at hg
      have hkeys := entP_keys (tvL_nodup g d k)
      rw [hm]
      refine ⟨⟨hkeys, rfl⟩, ?_, hkeys, by simp only [inR]; omega, k + 1, ?_, by omega, by omega⟩
      · show inR .i64 (getP (tvL g d k) (g k).p + (g k).tv)
        simp only [inR]; omega
      · have e2 : entP (tvL g d (k + 1)) = mset (entP (tvL g d k)) (.str (g k).p) (.int .i64 (getP (tvL g d k) (g k).p + (g k).tv)) := by
          rw [hset, tvL, decide_eq_true h2]; rfl
        have e3 := entP_rn (ren 0 [(0, 0)]) (tvL g d (k + 1))
        rw [e2] at e3
        have e4 : S_tv g d n (k + 1) = ⟨[(1, .int .i64 d), (5, .map 0), (13, .view 5 n (rwRow g)), (14, .int .i64 n), (15, .int .i64 ((k : Int) + 1))], [(0, .amap (mset (entP (tvL g d k)) (.str (g k).p) (.int .i64 (getP (tvL g d k) (g k).p + (g k).tv))))], 1, []⟩ := by
          unfold S_tv; rw [e2]; rfl
        show _ = some (S_tv g d n (k + 1))
        rw [e4]
        exact congrArg (fun x => some (St.mk [(1, .int .i64 d), (5, .map 0), (13, .view 5 n (rwRow g)), (14, .int .i64 (n : Int)), (15, .int .i64 ((k : Int) + 1))] [(0, .amap x)] 1 [])) e3
    · refine ⟨by simp only [inR]; omega, k + 1, ?_, by omega, by omega⟩
      have e : tvL g d (k + 1) = tvL g d k := by rw [tvL, decide_eq_false h2]; rfl
      have e4 : S_tv g d n (k + 1) = ⟨[(1, .int .i64 d), (5, .map 0), (13, .view 5 n (rwRow g)), (14, .int .i64 n), (15, .int .i64 ((k : Int) + 1))], [(0, .amap (entP (tvL g d k)))], 1, []⟩ := by
        unfold S_tv; rw [e]; rfl
      show _ = some (S_tv g d n (k + 1))
      rw [e4, entP_rn]
  · have : k = n := by omega
    subst this
    rw [entP_rn]
    exact hQ
theorem turn_ok (hP : C.P = Tryz.prog) (hL : ∀ w, C.laid w → LaidW w) : SpecOK C 61 S_turn := by
  rintro args objs U Os vc h hvc
  unfold S_turn at h
  split at h <;> simp only [Option.some.injEq, Prod.mk.injEq, reduceCtorEq] at h
  rename_i n f d
  obtain ⟨rfl, rfl, rfl⟩ := h
  obtain ⟨hn, hf, hs⟩ := hvc
  generalize rwOf f = g at *
  subst hf
  refine SpecOK.wpL (prg hP) [(19, .det S_sval)] [(5, L_tv g d n)] 0 (.cons (sval_ok hP hL) .nil) (hP ▸ Tryz.func61) rfl rfl rfl [(loopC Tryz.f61 5, L_tv g d n)] (by kernel_rfl) ⟨tv_loop hP g d n, trivial⟩ ?_
  rw [nf_turn, entP_rn]
  have hg : rwOf (rwRow g) = g := rfl
  rw [hg]
  refine ⟨⟨hn, rfl, hs⟩, condP_ndec (fun q => ?_) (fun q => ?_)⟩
  · have hc : tvF g d n = [] := by unfold tvF; rw [decide_eq_false q]; rfl
    rw [hc]
    exact ⟨rfl, rfl⟩
  · obtain ⟨q1, q2⟩ := svF_zero q
    have hc : tvF g d n = tvL g d n := by unfold tvF; rw [decide_eq_true q]; rfl
    rw [hc]
    exact ⟨rfl, q1, q2, rfl, rfl⟩

theorem co_loop (hP : C.P = Tryz.prog) (L : List (List UInt8 × Int)) (h : Nat → PR) (m : Nat) : LoopOK C 0 38 (loopC Tryz.f28 3) (L_co L h m) := by
  rintro st Q ⟨h0, hnd, hpos, hB, hm, hQ⟩
  refine LoopOK.mk (prg hP) [(62, .det S_findV)] 0 (.cons (findV_ok hP) .nil) [1, 8, 9, 17] [8, 9] [] (S_co L h m) (fun i => (0 ≤ i.a ∧ i.a + sumK (knownF h m) (i.left.map (atP L)) = sumK (knownF h m) L) ∧ (0 ≤ i.b ∧ i.b + sumK (fun _ => true) (i.left.map (atP L)) = sumK (fun _ => true) L) ∧ ∀ x ∈ i.left, x < L.length) (fun i => i.left.length) ⟨0, 0, (entP L).length, List.range (entP L).length⟩ ⟨?_, ?_, ?_⟩ h0 (fun i hi => ?_)
  · rw [entP_len]
    show 0 ≤ (0 : Int) ∧ 0 + sumK _ ((List.range L.length).map (atP L)) = _
    rw [atP_all]; omega
  · rw [entP_len]
    show 0 ≤ (0 : Int) ∧ 0 + sumK _ ((List.range L.length).map (atP L)) = _
    rw [atP_all]; omega
  · intro x hx
    have hx : x ∈ List.range (entP L).length := hx
    rw [entP_len] at hx
    exact List.mem_range.1 hx
  obtain ⟨⟨ha0, ha⟩, ⟨hb0, hb⟩, hlt⟩ := hi
  rw [nf_co_round]
  refine ⟨rfl, fun hnil => ?_, fun j hj => ?_⟩
  · rw [hnil] at ha hb
    have e1 : i.a = sumK (knownF h m) L := by have : sumK (knownF h m) (List.map (atP L) []) = 0 := rfl
                                              omega
    have e2 : i.b = sumK (fun _ => true) L := by have : sumK (fun _ => true) (List.map (atP L) []) = 0 := rfl
                                                 omega
    rw [e1, e2]; exact hQ
  · have hjl := hlt j hj
    have hx : atP L j ∈ L := by simp [atP, hjl]
    rw [entP_at hjl, entP_rn, entP_len]
    have herase : (i.left.erase j).length + 1 = i.left.length := by
      rw [List.length_erase_of_mem hj]
      have := List.length_pos_of_mem hj
      omega
    have hperm := (List.perm_cons_erase hj).map (atP L)
    have hall : ∀ x ∈ (i.left.erase j).map (atP L), 0 ≤ x.2 := fun x hx => by
      obtain ⟨y, hy, rfl⟩ := List.mem_map.1 hx
      have := hlt y (List.mem_of_mem_erase hy)
      exact hpos _ (by simp [atP, this])
    have p0 := hpos _ hx
    have s1 := sumK_perm (knownF h m) hperm
    have s2 := sumK_perm (fun _ => true) hperm
    rw [List.map_cons, sumK] at s1 s2
    have b1 := sumK_pos (knownF h m) hall
    have b2 := sumK_pos (fun _ => true) hall
    have bk := sumK_pos (knownF h m) hpos
    have kle : sumK (knownF h m) L ≤ sumK (fun _ => true) L := by
      have : ∀ l : List (List UInt8 × Int), (∀ x ∈ l, 0 ≤ x.2) → sumK (knownF h m) l ≤ sumK (fun _ => true) l := fun l => by
        induction l with
        | nil => intro _; exact Int.le_refl _
        | cons x l ih =>
          intro hl
          have := ih fun y hy => hl y (List.mem_cons_of_mem _ hy)
          have := hl x (List.mem_cons_self ..)
          rw [sumK, sumK]
          cases knownF h m x.1 <;> simp <;> omega
      exact this L hpos
    have hlt' : ∀ x ∈ i.left.erase j, x < L.length := fun x hx => hlt x (List.mem_of_mem_erase hx)
    generalize atP L j = x at *
    have s2 : sumK (fun _ => true) (i.left.map (atP L)) = x.2 + sumK (fun _ => true) ((i.left.erase j).map (atP L)) := s2
    refine ⟨⟨rfl, hjl, rfl, rfl⟩, ⟨hm.1, rfl, hm.2⟩, condP_dec (fun q => ?_) (fun q => ?_)⟩
    · have hk : knownF h m x.1 = true := decide_eq_true q
      rw [hk] at s1
      have s1 : sumK (knownF h m) (i.left.map (atP L)) = x.2 + sumK (knownF h m) ((i.left.erase j).map (atP L)) := s1
      refine ⟨?_, ?_, ⟨i.a + x.2, i.b + x.2, j, i.left.erase j⟩, rfl, ⟨⟨?_, ?_⟩, ⟨?_, ?_⟩, hlt'⟩, ?_⟩
      · show inR .i64 (i.a + x.2)
        simp only [inR]; omega
      · show inR .i64 (i.b + x.2)
        simp only [inR]; omega
      · show 0 ≤ i.a + x.2
        omega
      · show i.a + x.2 + sumK (knownF h m) ((i.left.erase j).map (atP L)) = _
        omega
      · show 0 ≤ i.b + x.2
        omega
      · show i.b + x.2 + sumK (fun _ => true) ((i.left.erase j).map (atP L)) = _
        omega
      · show (i.left.erase j).length < i.left.length
        omega
    · have hk : knownF h m x.1 = false := decide_eq_false q
      rw [hk] at s1
      have s1 : sumK (knownF h m) (i.left.map (atP L)) = 0 + sumK (knownF h m) ((i.left.erase j).map (atP L)) := s1
      refine ⟨?_, ⟨i.a, i.b + x.2, j, i.left.erase j⟩, rfl, ⟨⟨ha0, ?_⟩, ⟨?_, ?_⟩, hlt'⟩, ?_⟩
      · show inR .i64 (i.b + x.2)
        simp only [inR]; omega
      · show i.a + sumK (knownF h m) ((i.left.erase j).map (atP L)) = _
        omega
      · show 0 ≤ i.b + x.2
        omega
      · show i.b + x.2 + sumK (fun _ => true) ((i.left.erase j).map (atP L)) = _
        omega
      · show (i.left.erase j).length < i.left.length
        omega
theorem tvF_sum (φ : List UInt8 → Bool) (g : Nat → RW) (d : Int) (n : Nat) : sumK φ (tvF g d n) = bif decide (svF g n = 0) then covS φ g d n else 0 := by
  unfold tvF
  cases decide (svF g n = 0) with
  | true => exact sumK_tvL φ g d n
  | false => rfl
theorem tvF_facts (g : Nat → RW) (d : Int) (n : Nat) : ((tvF g d n).map Prod.fst).Nodup ∧ (∀ x ∈ tvF g d n, 0 ≤ x.2) ∧ sumK (fun _ => true) (tvF g d n) ≤ 26388279066624000 := by
  by_cases q : svF g n = 0
  · obtain ⟨q1, q2⟩ := svF_zero q
    have hc : tvF g d n = tvL g d n := by unfold tvF; rw [decide_eq_true q]; rfl
    rw [hc]
    refine ⟨tvL_nodup g d n, tvL_pos d fun i hi => by have := rowF_bounds (q2 i hi); omega, ?_⟩
    rw [sumK_tvL]
    have := covS_le (g := g) (B := 1099511627776) (fun _ => true) d (n := n) fun i hi => by have := rowF_bounds (q2 i hi); omega
    omega
  · have hc : tvF g d n = [] := by unfold tvF; rw [decide_eq_false q]; rfl
    rw [hc]
    exact ⟨.nil, fun _ h => (by cases h), by decide⟩
theorem cov_ok (hP : C.P = Tryz.prog) (hL : ∀ w, C.laid w → LaidW w) : SpecOK C 28 S_cov := by
  rintro args objs U Os vc h hvc
  unfold S_cov at h
  split at h <;> simp only [Option.some.injEq, Prod.mk.injEq, reduceCtorEq] at h
  rename_i n f m h' d
  obtain ⟨rfl, rfl, rfl⟩ := h
  obtain ⟨⟨hn, hf, hs⟩, hm, hh, hsh⟩ := hvc
  generalize rwOf f = g at *
  generalize prOf h' = h at *
  subst hf; subst hh
  refine SpecOK.wpL (prg hP) [(61, .det S_turn), (62, .det S_findV)] [(3, L_co (tvF g d n) h m)] 0 (.cons (turn_ok hP hL) (.cons (findV_ok hP) .nil)) (hP ▸ Tryz.func28) rfl rfl rfl [(loopC Tryz.f28 3, L_co (tvF g d n) h m)] (by kernel_rfl) ⟨co_loop hP _ h m, trivial⟩ ?_
  have hg : rwOf (rwRow g) = g := rfl
  obtain ⟨f1, f2, f3⟩ := tvF_facts g d n
  rw [nf_cov, hg, entP_rn, entP_rn]
  refine ⟨⟨hn, rfl, hs⟩, rfl, f1, f2, f3, ⟨hm, hsh⟩, ?_, rfl⟩
  rw [tvF_sum, tvF_sum]; rfl
theorem cR_loop (hP : C.P = Tryz.prog) (g : Nat → RW) (h : Nat → PR) (n m : Nat) (d : Int) : LoopOK C 0 46 (loopC Tryz.f29 5) (L_cR g h n m d) := by
  rintro st Q ⟨h0, hn, hr, hm, hQ⟩
  refine LoopOK.mk (prg hP) [(63, .det S_findV)] 0 (.cons (findRV_ok hP) .nil) [1, 2, 8, 9, 17, 18, 19] [8, 9] [] (S_cR g h n m d) (fun k => k ≤ n) (fun k => n - k) 0 (Nat.zero_le _) h0 (fun k hk => ?_)
  rw [nf_cR_round, Int.toNat_natCast]
  have mk : ∀ v1 v2 : Int, covS (knownF h m) g d (k + 1) = v1 → covS (fun _ => true) g d (k + 1) = v2 → some (St.mk [(1, .view 7 m (pdRow h)), (2, .int .i64 d), (8, .int .i64 v1), (9, .int .i64 v2), (17, .view 5 n (rwRow g)), (18, .int .i64 (n : Int)), (19, .int .i64 ((k : Int) + 1))] [] 0 []) = some (S_cR g h n m d (k + 1)) := fun v1 v2 e1 e2 => by
    unfold S_cR; rw [e1, e2]; rfl
  have s1 : ∀ φ, covS φ g d (k + 1) = covS φ g d k + bif decide ((g k).per = d) && φ (g k).p then (g k).tv else 0 := fun _ => rfl
  have hle : ∀ φ, k < n → 0 ≤ covS φ g d k ∧ covS φ g d k ≤ 1099511627776 * k := fun φ q => covS_le φ d (n := k) fun i hi => by have := rowF_bounds (hr i (by omega)); omega
  refine condP_dec (fun h1 => ⟨⟨by omega, by omega, rfl⟩, condP_ndec (fun h2 => ?_) (fun h2 => ?_)⟩) (fun h1 => ?_)
  · refine ⟨by simp only [inR]; omega, k + 1, mk _ _ ?_ ?_, by omega, by omega⟩
    · rw [s1, decide_eq_false h2]; exact Int.add_zero _
    · rw [s1, decide_eq_false h2]; exact Int.add_zero _
  · have hb := rowF_bounds (hr k (by omega))
    have l1 := hle (knownF h m) (by omega)
    have l2 := hle (fun _ => true) (by omega)
    have e2 : covS (fun _ => true) g d (k + 1) = covS (fun _ => true) g d k + (g k).tv := by rw [s1, decide_eq_true h2]; rfl
    refine ⟨by simp only [inR]; omega, ⟨hm.1, rfl, hm.2⟩, condP_dec (fun q => ?_) (fun q => ?_)⟩
    · refine ⟨by simp only [inR]; omega, by simp only [inR]; omega, k + 1, mk _ _ ?_ e2, by omega, by omega⟩
      rw [s1, decide_eq_true h2, show knownF h m (g k).p = true from decide_eq_true q]; rfl
    · refine ⟨by simp only [inR]; omega, k + 1, mk _ _ ?_ e2, by omega, by omega⟩
      rw [s1, decide_eq_true h2, show knownF h m (g k).p = false from decide_eq_false q]; exact Int.add_zero _
  · have : k = n := by omega
    subst this
    exact hQ
theorem covR_ok (hP : C.P = Tryz.prog) : SpecOK C 29 S_cov := by
  rintro args objs U Os vc h hvc
  unfold S_cov at h
  split at h <;> simp only [Option.some.injEq, Prod.mk.injEq, reduceCtorEq] at h
  rename_i n f m h' d
  obtain ⟨rfl, rfl, rfl⟩ := h
  obtain ⟨⟨hn, hf, hs⟩, hm, hh, hsh⟩ := hvc
  generalize rwOf f = g at *
  generalize prOf h' = h at *
  subst hf; subst hh
  refine SpecOK.wpL (prg hP) [(20, .det S_sval), (63, .det S_findV)] [(5, L_cR g h n m d)] 0 (.cons (rval_ok hP) (.cons (findRV_ok hP) .nil)) (hP ▸ Tryz.func29) rfl rfl rfl [(loopC Tryz.f29 5, L_cR g h n m d)] (by kernel_rfl) ⟨cR_loop hP g h n m d, trivial⟩ ?_
  have hg : rwOf (rwRow g) = g := rfl
  rw [nf_covR, hg]
  unfold cov1 cov2
  refine ⟨⟨hn, rfl, hs⟩, condP_ndec (fun q => ?_) (fun q => ?_)⟩
  · rw [decide_eq_false q]; exact ⟨rfl, rfl⟩
  · obtain ⟨q1, q2⟩ := svF_zero q
    rw [decide_eq_true q]
    exact ⟨rfl, q1, q2, ⟨hm, hsh⟩, rfl, rfl⟩
theorem covN_ok (hP : C.P = Tryz.prog) (hL : ∀ w, C.laid w → LaidW w) : SpecOK C 28 S_covN := by
  rintro args objs U Os vc h hvc
  unfold S_covN at h
  split at h <;> simp only [Option.some.injEq, Prod.mk.injEq, reduceCtorEq] at h
  rename_i n f d
  obtain ⟨rfl, rfl, rfl⟩ := h
  refine ACalls.nilArg 7 (pdRow fun _ => zeroPR) ?_
  exact cov_ok hP hL _ _ _ _ _ rfl ⟨hvc, Nat.zero_le _, rfl, fun i hi => absurd hi (Nat.not_lt_zero i)⟩
theorem turnover_ok (hP : C.P = Tryz.prog) (hL : ∀ w, C.laid w → LaidW w) : SpecOK C 30 S_turnover := by
  rintro args objs U Os vc h hvc
  unfold S_turnover at h
  split at h <;> simp only [Option.some.injEq, Prod.mk.injEq, reduceCtorEq] at h
  rename_i n f d
  obtain ⟨rfl, rfl, rfl⟩ := h
  obtain ⟨hn, hf, hs⟩ := hvc
  generalize rwOf f = g at *
  subst hf
  refine SpecOK.wp0 (prg hP) [(28, .det S_covN)] 0 (.cons (covN_ok hP hL) .nil) (hP ▸ Tryz.func30) rfl rfl rfl ?_
  rw [nf_turnover]
  exact ⟨⟨hn, rfl, hs⟩, rfl, rfl⟩
end Go.Eng
/- Products from a tape. -/
namespace Go.Eng
open Go.Proofs Go.RowKit
variable {C : Ctx} [C.Loose]
set_option maxRecDepth 20000
theorem nf_item (n : Nat) (v : Nat → Int) (a k : Int) (R : AV → List (Nat × AObj) → Prop) : wpFn te [(43, .det S_id), (27, .det S_next)] [] 0 Tryz.f60 [.ptr 0 0, .int .i64 k] [.cells [.view 1 n (intRow v), .int .i64 a] 28] R = (True ∧ (2 ≤ 16777216 ∧ 1 = 1 ∧ 2 ≤ 9223372036854775807) ∧ (28 = 28 ∧ 1 = 1 ∧ intRow v = intRow (vInt (intRow v)) ∧ ((1 : Int) ≤ (2 : Int) ∧ (2 : Int) ≤ (1000000 : Int)) ∧ (0 : Int) ≤ a ∧ a ≤ (4611686018427387904 : Int)) ∧ ((0 : Int) ≤ nextV n (vInt (intRow v)) a (2 : Int) ∧ nextV n (vInt (intRow v)) a (2 : Int) < (↑2 : Int)) ∧ (Int.toNat (nextV n (vInt (intRow v)) a (2 : Int)) < 2 ∧ 1 = 1) ∧ (28 = 28 ∧ 1 = 1 ∧ intRow v = intRow (vInt (intRow v)) ∧ ((1 : Int) ≤ (4 : Int) ∧ (4 : Int) ≤ (1000000 : Int)) ∧ (0 : Int) ≤ a + (1 : Int) ∧ a + (1 : Int) ≤ (4611686018427387904 : Int)) ∧ inR .i64 ((50000 : Int) * nextV n (vInt (intRow v)) (a + (1 : Int)) (4 : Int)) ∧ inR .i64 ((400000 : Int) + (50000 : Int) * nextV n (vInt (intRow v)) (a + (1 : Int)) (4 : Int)) ∧ (4 ≤ 16777216 ∧ 1 = 1 ∧ 4 ≤ 9223372036854775807) ∧ (28 = 28 ∧ 1 = 1 ∧ intRow v = intRow (vInt (intRow v)) ∧ ((1 : Int) ≤ (4 : Int) ∧ (4 : Int) ≤ (1000000 : Int)) ∧ (0 : Int) ≤ a + (1 : Int) + (1 : Int) ∧ a + (1 : Int) + (1 : Int) ≤ (4611686018427387904 : Int)) ∧ ((0 : Int) ≤ nextV n (vInt (intRow v)) (a + (1 : Int) + (1 : Int)) (4 : Int) ∧ nextV n (vInt (intRow v)) (a + (1 : Int) + (1 : Int)) (4 : Int) < (↑4 : Int)) ∧ (Int.toNat (nextV n (vInt (intRow v)) (a + (1 : Int) + (1 : Int)) (4 : Int)) < 4 ∧ 1 = 1) ∧ (3 ≤ 16777216 ∧ 1 = 1 ∧ 3 ≤ 9223372036854775807) ∧ (28 = 28 ∧ 1 = 1 ∧ intRow v = intRow (vInt (intRow v)) ∧ ((1 : Int) ≤ (3 : Int) ∧ (3 : Int) ≤ (1000000 : Int)) ∧ (0 : Int) ≤ a + (1 : Int) + (1 : Int) + (1 : Int) ∧ a + (1 : Int) + (1 : Int) + (1 : Int) ≤ (4611686018427387904 : Int)) ∧ ((0 : Int) ≤ nextV n (vInt (intRow v)) (a + (1 : Int) + (1 : Int) + (1 : Int)) (3 : Int) ∧ nextV n (vInt (intRow v)) (a + (1 : Int) + (1 : Int) + (1 : Int)) (3 : Int) < (↑3 : Int)) ∧ (Int.toNat (nextV n (vInt (intRow v)) (a + (1 : Int) + (1 : Int) + (1 : Int)) (3 : Int)) < 3 ∧ 1 = 1) ∧ (4 ≤ 16777216 ∧ 2 = 2 ∧ 2 ≤ 9223372036854775807) ∧ (28 = 28 ∧ 1 = 1 ∧ intRow v = intRow (vInt (intRow v)) ∧ ((1 : Int) ≤ (2 : Int) ∧ (2 : Int) ≤ (1000000 : Int)) ∧ (0 : Int) ≤ a + (1 : Int) + (1 : Int) + (1 : Int) + (1 : Int) ∧ a + (1 : Int) + (1 : Int) + (1 : Int) + (1 : Int) ≤ (4611686018427387904 : Int)) ∧ condP (decide (nextV n (vInt (intRow v)) (a + (1 : Int) + (1 : Int) + (1 : Int) + (1 : Int)) (2 : Int) = (0 : Int))) (((0 : Int) ≤ (1 : Int) ∧ (1 : Int) < (↑2 : Int)) ∧ (1 < 2 ∧ 2 = 2) ∧ ((0 : Int) ≤ (0 : Int) ∧ (0 : Int) < (↑2 : Int)) ∧ (0 < 2 ∧ 2 = 2) ∧ ((0 : Int) ≤ (0 : Int) ∧ (0 : Int) < (↑2 : Int)) ∧ (List.length [AV.str [(99 : UInt8), 111, 108, 111, 117, 114], .str (List.getD [[(114 : UInt8), 101, 100], [(98 : UInt8), 108, 117, 101], [(103 : UInt8), 114, 101, 101, 110]] (Int.toNat (nextV n (vInt (intRow v)) (a + (1 : Int) + (1 : Int) + (1 : Int)) (3 : Int))) [])] = 2 ∧ 0 < 2 ∧ 2 = 2) ∧ ((0 : Int) ≤ (1 : Int) ∧ (1 : Int) < (↑2 : Int)) ∧ (List.length [AV.str [(112 : UInt8), 111, 119, 101, 114], .str (List.getD [[(49 : UInt8)], [(50 : UInt8)], [(50 : UInt8), 46, 53], [(52 : UInt8)]] (Int.toNat (nextV n (vInt (intRow v)) (a + (1 : Int) + (1 : Int)) (4 : Int))) [])] = 2 ∧ 1 < 2 ∧ 2 = 2) ∧ (True ∧ True) ∧ (∀ (i : Nat), i < 2 → nrefL ((fun (k : Nat) => if k = 1 then .str [(112 : UInt8), 111, 119, 101, 114] :: .str (List.getD [[(49 : UInt8)], [(50 : UInt8)], [(50 : UInt8), 46, 53], [(52 : UInt8)]] (Int.toNat (nextV n (vInt (intRow v)) (a + (1 : Int) + (1 : Int)) (4 : Int))) []) :: List.take (nat_lit 0) (List.append [] (List.flatten (List.replicate (nat_lit 0) [.str ([]), .str ([])]))) else (fun (k : Nat) => if k = 0 then .str [(99 : UInt8), 111, 108, 111, 117, 114] :: .str (List.getD [[(114 : UInt8), 101, 100], [(98 : UInt8), 108, 117, 101], [(103 : UInt8), 114, 101, 101, 110]] (Int.toNat (nextV n (vInt (intRow v)) (a + (1 : Int) + (1 : Int) + (1 : Int)) (3 : Int))) []) :: List.take (nat_lit 0) (.str [(99 : UInt8), 111, 108, 111, 117, 114] :: .str (List.getD [[(114 : UInt8), 101, 100], [(98 : UInt8), 108, 117, 101], [(103 : UInt8), 114, 101, 101, 110]] (Int.toNat (nextV n (vInt (intRow v)) (a + (1 : Int) + (1 : Int) + (1 : Int)) (3 : Int))) []) :: List.append [] (List.flatten (List.replicate (nat_lit 0) [.str ([]), .str ([])]))) else chunkA (TI.sz (TI.mk (TypeDesc.struct #[Field.mk "Name" (9 : TypeId) 0 false "" "" 0, Field.mk "Value" (9 : TypeId) 1 false "" "" 16]) 2 32 (Value.agg #[Value.string (ByteArray.mk #[]), Value.string (ByteArray.mk #[])]) true)) (.str [(112 : UInt8), 111, 119, 101, 114] :: .str (List.getD [[(49 : UInt8)], [(50 : UInt8)], [(50 : UInt8), 46, 53], [(52 : UInt8)]] (Int.toNat (nextV n (vInt (intRow v)) (a + (1 : Int) + (1 : Int)) (4 : Int))) []) :: .str [(99 : UInt8), 111, 108, 111, 117, 114] :: .str (List.getD [[(114 : UInt8), 101, 100], [(98 : UInt8), 108, 117, 101], [(103 : UInt8), 114, 101, 101, 110]] (Int.toNat (nextV n (vInt (intRow v)) (a + (1 : Int) + (1 : Int) + (1 : Int)) (3 : Int))) []) :: List.append [] (List.flatten (List.replicate (nat_lit 0) [.str ([]), .str ([])]))) k) k) i) = true) ∧ ∃ (O' : List (Nat × AObj)), RowsEq [(0, .cells [.view 1 n (intRow v), .int .i64 (a + (1 : Int) + (1 : Int) + (1 : Int) + (1 : Int) + (1 : Int))] 28), (1, .row 122 2 2 (fun (k : Nat) => if k = 1 then .str [(112 : UInt8), 111, 119, 101, 114] :: .str (List.getD [[(49 : UInt8)], [(50 : UInt8)], [(50 : UInt8), 46, 53], [(52 : UInt8)]] (Int.toNat (nextV n (vInt (intRow v)) (a + (1 : Int) + (1 : Int)) (4 : Int))) []) :: List.take (nat_lit 0) (List.append [] (List.flatten (List.replicate (nat_lit 0) [.str ([]), .str ([])]))) else if k = 0 then .str [(99 : UInt8), 111, 108, 111, 117, 114] :: .str (List.getD [[(114 : UInt8), 101, 100], [(98 : UInt8), 108, 117, 101], [(103 : UInt8), 114, 101, 101, 110]] (Int.toNat (nextV n (vInt (intRow v)) (a + (1 : Int) + (1 : Int) + (1 : Int)) (3 : Int))) []) :: List.take (nat_lit 0) (.str [(99 : UInt8), 111, 108, 111, 117, 114] :: .str (List.getD [[(114 : UInt8), 101, 100], [(98 : UInt8), 108, 117, 101], [(103 : UInt8), 114, 101, 101, 110]] (Int.toNat (nextV n (vInt (intRow v)) (a + (1 : Int) + (1 : Int) + (1 : Int)) (3 : Int))) []) :: List.append [] (List.flatten (List.replicate (nat_lit 0) [.str ([]), .str ([])]))) else chunkA (TI.sz (TI.mk (TypeDesc.struct #[Field.mk "Name" (9 : TypeId) 0 false "" "" 0, Field.mk "Value" (9 : TypeId) 1 false "" "" 16]) 2 32 (Value.agg #[Value.string (ByteArray.mk #[]), Value.string (ByteArray.mk #[])]) true)) (.str [(112 : UInt8), 111, 119, 101, 114] :: .str (List.getD [[(49 : UInt8)], [(50 : UInt8)], [(50 : UInt8), 46, 53], [(52 : UInt8)]] (Int.toNat (nextV n (vInt (intRow v)) (a + (1 : Int) + (1 : Int)) (4 : Int))) []) :: .str [(99 : UInt8), 111, 108, 111, 117, 114] :: .str (List.getD [[(114 : UInt8), 101, 100], [(98 : UInt8), 108, 117, 101], [(103 : UInt8), 114, 101, 101, 110]] (Int.toNat (nextV n (vInt (intRow v)) (a + (1 : Int) + (1 : Int) + (1 : Int)) (3 : Int))) []) :: List.append [] (List.flatten (List.replicate (nat_lit 0) [.str ([]), .str ([])]))) k) false)] O' ∧ R (.agg [.str (idF k), .str (List.getD [[(48 : UInt8), 49, 46, 49], [(48 : UInt8), 49, 46, 50]] (Int.toNat (nextV n (vInt (intRow v)) a (2 : Int))) []), .str [(97 : UInt8), 99, 109, 101], .int .i64 1, .int .i64 1, .int .i64 ((400000 : Int) + (50000 : Int) * nextV n (vInt (intRow v)) (a + (1 : Int)) (4 : Int)), .own 1 2]) O') ((True ∧ True) ∧ (∀ (i : Nat), i < 2 → nrefL (chunkA (TI.sz (TI.mk (TypeDesc.struct #[Field.mk "Name" (9 : TypeId) 0 false "" "" 0, Field.mk "Value" (9 : TypeId) 1 false "" "" 16]) 2 32 (Value.agg #[Value.string (ByteArray.mk #[]), Value.string (ByteArray.mk #[])]) true)) (.str [(112 : UInt8), 111, 119, 101, 114] :: .str (List.getD [[(49 : UInt8)], [(50 : UInt8)], [(50 : UInt8), 46, 53], [(52 : UInt8)]] (Int.toNat (nextV n (vInt (intRow v)) (a + (1 : Int) + (1 : Int)) (4 : Int))) []) :: .str [(99 : UInt8), 111, 108, 111, 117, 114] :: .str (List.getD [[(114 : UInt8), 101, 100], [(98 : UInt8), 108, 117, 101], [(103 : UInt8), 114, 101, 101, 110]] (Int.toNat (nextV n (vInt (intRow v)) (a + (1 : Int) + (1 : Int) + (1 : Int)) (3 : Int))) []) :: List.append [] (List.flatten (List.replicate (nat_lit 0) [.str ([]), .str ([])]))) i) = true) ∧ ∃ (O' : List (Nat × AObj)), RowsEq [(0, .cells [.view 1 n (intRow v), .int .i64 (a + (1 : Int) + (1 : Int) + (1 : Int) + (1 : Int) + (1 : Int))] 28), (1, .row 122 2 2 (chunkA (TI.sz (TI.mk (TypeDesc.struct #[Field.mk "Name" (9 : TypeId) 0 false "" "" 0, Field.mk "Value" (9 : TypeId) 1 false "" "" 16]) 2 32 (Value.agg #[Value.string (ByteArray.mk #[]), Value.string (ByteArray.mk #[])]) true)) (.str [(112 : UInt8), 111, 119, 101, 114] :: .str (List.getD [[(49 : UInt8)], [(50 : UInt8)], [(50 : UInt8), 46, 53], [(52 : UInt8)]] (Int.toNat (nextV n (vInt (intRow v)) (a + (1 : Int) + (1 : Int)) (4 : Int))) []) :: .str [(99 : UInt8), 111, 108, 111, 117, 114] :: .str (List.getD [[(114 : UInt8), 101, 100], [(98 : UInt8), 108, 117, 101], [(103 : UInt8), 114, 101, 101, 110]] (Int.toNat (nextV n (vInt (intRow v)) (a + (1 : Int) + (1 : Int) + (1 : Int)) (3 : Int))) []) :: List.append [] (List.flatten (List.replicate (nat_lit 0) [.str ([]), .str ([])])))) false)] O' ∧ R (.agg [.str (idF k), .str (List.getD [[(48 : UInt8), 49, 46, 49], [(48 : UInt8), 49, 46, 50]] (Int.toNat (nextV n (vInt (intRow v)) a (2 : Int))) []), .str [(97 : UInt8), 99, 109, 101], .int .i64 1, .int .i64 1, .int .i64 ((400000 : Int) + (50000 : Int) * nextV n (vInt (intRow v)) (a + (1 : Int)) (4 : Int)), .own 1 2]) O')) := by kernel_rfl

theorem item_ok (hP : C.P = Tryz.prog) : RSpecOK C 60 R_item := by
  rintro args objs R h
  unfold R_item at h
  split at h
  · rename_i k sz n f a t
    obtain ⟨rfl, rfl, hf, ha, hR⟩ := h
    rw [hf] at hR ⊢
    generalize vInt f = v at *
    refine RSpecOK.wpL (prg hP) [(43, .det S_id), (27, .det S_next)] [] 0 (.cons (id_ok hP) (.cons (next_ok hP) .nil)) (hP ▸ Tryz.func60) rfl rfl rfl [] (by kernel_rfl) trivial ?_
    rw [nf_item]
    have hw : vInt (intRow v) = v := rfl
    rw [hw]
    have r1 := nextV_range (show (1 : Int) ≤ 2 by omega) n v a
    have r2 := nextV_range (show (1 : Int) ≤ 4 by omega) n v (a + 1)
    have r3 := nextV_range (show (1 : Int) ≤ 4 by omega) n v (a + 1 + 1)
    have r4 := nextV_range (show (1 : Int) ≤ 3 by omega) n v (a + 1 + 1 + 1)
    have fin : ∀ (x1 y1 x2 y2 : List UInt8) (q : Int) (c0 : Nat), x1.length ≤ 30 → y1.length ≤ 30 → x2.length ≤ 30 → y2.length ≤ 30 → c0 < 2 → qtyF 1 1 q = 0 → atsOK (pick2 x1 x2) (pick2 y1 y2) 2 = true →
        R (.agg [.str (idF k), .str (List.getD [[48, 49, 46, 49], [48, 49, 46, 50]] c0 []), .str [97, 99, 109, 101], .int .i64 1, .int .i64 1, .int .i64 q, .own 1 2]) [(0, .cells [.view 1 n (intRow v), .int .i64 (a + 1 + 1 + 1 + 1 + 1)] 28), (1, .row 122 2 2 (atRow (pick2 x1 x2) (pick2 y1 y2)) false)] := by
      intro x1 y1 x2 y2 q c0 l1 l2 l3 l4 hc hq hats
      refine hR _ _ _ _ _ _ _ _ _ (by rw [idF_len]; omega) (getD_le _ rfl) (by decide) (fun i hi => ?_) (by omega) rfl (item_val k q c0 x1 y1 x2 y2 hc hq hats)
      match i with
      | 0 => exact ⟨l1, l2⟩
      | 1 => exact ⟨l3, l4⟩
    have two : ∀ (g : Nat → List AV) (x1 y1 x2 y2 : List UInt8), g 0 = [.str x1, .str y1] → g 1 = [.str x2, .str y2] → ∀ i, i < 2 → g i = atRow (pick2 x1 x2) (pick2 y1 y2) i := by
      intro g x1 y1 x2 y2 h0 h1 i hi
      match i with
      | 0 => exact h0
      | 1 => exact h1
    refine ⟨trivial, ⟨by omega, rfl, by omega⟩, ⟨rfl, rfl, rfl, ⟨by omega, by omega⟩, by omega, by omega⟩, ⟨by omega, by omega⟩, ⟨by omega, rfl⟩, ⟨rfl, rfl, rfl, ⟨by omega, by omega⟩, by omega, by omega⟩, by simp only [inR]; omega, by simp only [inR]; omega, ⟨by omega, rfl, by omega⟩, ⟨rfl, rfl, rfl, ⟨by omega, by omega⟩, by omega, by omega⟩, ⟨by omega, by omega⟩, ⟨by omega, rfl⟩, ⟨by omega, rfl, by omega⟩, ⟨rfl, rfl, rfl, ⟨by omega, by omega⟩, by omega, by omega⟩, ⟨by omega, by omega⟩, ⟨by omega, rfl⟩, ⟨by omega, rfl, by omega⟩, ⟨rfl, rfl, rfl, ⟨by omega, by omega⟩, by omega, by omega⟩, condP_dec (fun h => ?_) (fun h => ?_)⟩
    · refine ⟨⟨by omega, by omega⟩, ⟨by omega, rfl⟩, ⟨by omega, by omega⟩, ⟨by omega, rfl⟩, ⟨by omega, by omega⟩, ⟨rfl, by omega, rfl⟩, ⟨by omega, by omega⟩, ⟨rfl, by omega, rfl⟩, ⟨trivial, trivial⟩, fun i hi => ?_, _, ?_, fin [99, 111, 108, 111, 117, 114] (List.getD [[114, 101, 100], [98, 108, 117, 101], [103, 114, 101, 101, 110]] (nextV n v (a + 1 + 1 + 1) 3).toNat []) [112, 111, 119, 101, 114] (List.getD [[49], [50], [50, 46, 53], [52]] (nextV n v (a + 1 + 1) 4).toNat []) _ _ (by decide) (getD_le _ rfl) (by decide) (getD_le _ rfl) (by omega) (item_qty r2.1 r2.2) (item_ats _ (by omega) _ (by omega)).1⟩
      · match i with
        | 0 => rfl
        | 1 => rfl
      · exact ⟨rfl, ⟨rfl, rfl, rfl, rfl, rfl, two _ _ _ _ _ rfl rfl⟩, trivial⟩
    · refine ⟨⟨trivial, trivial⟩, fun i hi => ?_, _, ?_, fin [112, 111, 119, 101, 114] (List.getD [[49], [50], [50, 46, 53], [52]] (nextV n v (a + 1 + 1) 4).toNat []) [99, 111, 108, 111, 117, 114] (List.getD [[114, 101, 100], [98, 108, 117, 101], [103, 114, 101, 101, 110]] (nextV n v (a + 1 + 1 + 1) 3).toNat []) _ _ (by decide) (getD_le _ rfl) (by decide) (getD_le _ rfl) (by omega) (item_qty r2.1 r2.2) (item_ats _ (by omega) _ (by omega)).2⟩
      · match i with
        | 0 => rfl
        | 1 => rfl
      · exact ⟨rfl, ⟨rfl, rfl, rfl, rfl, rfl, two _ _ _ _ _ rfl rfl⟩, trivial⟩
  · exact h.elim
end Go.Eng
/- Products from a tape, with their attributes told as plain data; catalogs. -/
namespace Go.Eng
open Go.Proofs Go.RowKit
variable {C : Ctx} [C.Loose]
set_option maxRecDepth 20000
theorem nf_cat (n : Nat) (v : Nat → Int) (a k most : Int) (R : AV → List (Nat × AObj) → Prop) : wpFn te [(60, .rel R_itemV), (27, .det S_next)] [(3, L_cat n v (a + 1) k (nextV n v a (most + 1)))] 0 Tryz.f26 [.ptr 0 0, .int .i64 k, .int .i64 most] [.cells [.view 1 n (intRow v), .int .i64 a] 28] R = (inR .i64 (most + (1 : Int)) ∧ (28 = 28 ∧ 1 = 1 ∧ intRow v = intRow (vInt (intRow v)) ∧ ((1 : Int) ≤ most + (1 : Int) ∧ most + (1 : Int) ≤ (1000000 : Int)) ∧ (0 : Int) ≤ a ∧ a ≤ (4611686018427387904 : Int)) ∧ (TEq [(0, .ptr 0 0), (1, .int .i64 k), (7, .own 1 0), (12, .int .i64 (nextV n (vInt (intRow v)) a (most + (1 : Int)))), (13, .int .i64 0)] [(0, .ptr 0 0), (1, .int .i64 k), (7, .own 1 0), (12, .int .i64 (nextV n v a (most + (1 : Int)))), (13, .int .i64 (↑(CatS.c (CatS.mk 0 (fun (x : Nat) => default) (a + (1 : Int)))) : Int))] ∧ RowsEq [(0, .cells [.view 1 n (intRow v), .int .i64 (a + (1 : Int))] 28), (1, .row 96 7 0 (fun (x : Nat) => []) false)] [(0, .cells [.view 1 n (intRow v), .int .i64 (CatS.a (CatS.mk 0 (fun (x : Nat) => default) (a + (1 : Int))))] 28), (1, .row 96 7 0 (pdRow (CatS.g (CatS.mk 0 (fun (x : Nat) => default) (a + (1 : Int))))) false)]) ∧ ((0 : Int) ≤ nextV n v a (most + (1 : Int)) ∧ nextV n v a (most + (1 : Int)) ≤ (100 : Int)) ∧ ((0 : Int) ≤ k ∧ k ≤ (100000 : Int)) ∧ ((0 : Int) ≤ a + (1 : Int) ∧ a + (1 : Int) ≤ (4611686018427386000 : Int)) ∧ ∀ (i : CatS), CatS.c i = Int.toNat (nextV n v a (most + (1 : Int))) → CatS.a i = a + (1 : Int) + (5 : Int) * (↑(CatS.c i) : Int) → (∀ (j : Nat), j < CatS.c i → PR.Short (CatS.g i j)) → (∀ (i_1 : Nat), i_1 < CatS.c i → true = true) ∧ ∃ (O' : List (Nat × AObj)), RowsEq [(0, .cells [.view 1 n (intRow v), .int .i64 (CatS.a i)] 28), (1, .row 96 7 (CatS.c i) (pdRow (CatS.g i)) false)] O' ∧ R (.own 1 (CatS.c i)) O') := by kernel_rfl
theorem nf_cat_round (n : Nat) (v : Nat → Int) (k N : Int) (i : CatS) (P : CatS → Prop) (R : Exit → St → Prop) : roundP ⟨te, [(60, .rel R_itemV)], [], 1, 26, 0⟩ (loopB Tryz.f26 3) [0, 1, 7, 12, 13] [7] [] (S_cat n v k N) P R (S_cat n v k N i) = (condP (decide ((↑(CatS.c i) : Int) < N)) (inR .i64 (k + (↑(CatS.c i) : Int)) ∧ 28 = 28 ∧ 1 = 1 ∧ intRow v = intRow (vInt (intRow v)) ∧ ((0 : Int) ≤ CatS.a i ∧ CatS.a i ≤ (4611686018427387000 : Int)) ∧ ∀ (p : PR) (a' : Int), PR.Short p → a' = CatS.a i + (5 : Int) → PR.id p = idF (k + (↑(CatS.c i) : Int)) → valF (PR.id p) (PR.code p) (PR.brand p) (PR.d p) (PR.c p) (PR.q p) (PR.na p) (PR.nm p) (PR.vl p) = (0 : Int) → (7 ≤ 16777216 ∧ 7 = 7 ∧ 1 ≤ 9223372036854775807) ∧ ((1 ≤ 1 ∧ 7 = 7) ∧ CatS.c i ≤ CatS.c i ∧ 7 = 7 ∧ 96 = 96 ∧ 7 = 7 ∧ CatS.c i + 1 ≤ 9223372036854775807 ∧ (CatS.c i + 1) * TI.bytes (TI.mk (TypeDesc.struct #[Field.mk "ID" (9 : TypeId) 0 false "" "" 0, Field.mk "Code" (9 : TypeId) 1 false "" "" 16, Field.mk "Brand" (9 : TypeId) 2 false "" "" 32, Field.mk "Size" (93 : TypeId) 3 false "" "" 48, Field.mk "Attributes" (94 : TypeId) 6 false "" "" 72]) 7 96 (Value.agg #[Value.string (ByteArray.mk #[]), Value.string (ByteArray.mk #[]), Value.string (ByteArray.mk #[]), Value.int IntKind.i64 0, Value.int IntKind.i64 0, Value.int IntKind.i64 0, Value.slice none 0 0]) true) ≤ 140737488355328) ∧ inR .i64 ((↑(CatS.c i) : Int) + (1 : Int)) ∧ ∃ (i' : CatS), (TEq [(0, .ptr 0 0), (1, .int .i64 k), (7, .own 1 (CatS.c i + 1)), (12, .int .i64 N), (13, .int .i64 ((↑(CatS.c i) : Int) + (1 : Int)))] [(0, .ptr 0 0), (1, .int .i64 k), (7, .own 1 (CatS.c i')), (12, .int .i64 N), (13, .int .i64 (↑(CatS.c i') : Int))] ∧ RowsEq [(0, .cells [.view 1 n (intRow v), .int .i64 a'] 28), (1, .row 96 7 (CatS.c i + 1) (apF (CatS.c i) (pdRow (CatS.g i)) (chunkA (TI.sz (TI.mk (TypeDesc.struct #[Field.mk "ID" (9 : TypeId) 0 false "" "" 0, Field.mk "Code" (9 : TypeId) 1 false "" "" 16, Field.mk "Brand" (9 : TypeId) 2 false "" "" 32, Field.mk "Size" (93 : TypeId) 3 false "" "" 48, Field.mk "Attributes" (94 : TypeId) 6 false "" "" 72]) 7 96 (Value.agg #[Value.string (ByteArray.mk #[]), Value.string (ByteArray.mk #[]), Value.string (ByteArray.mk #[]), Value.int IntKind.i64 0, Value.int IntKind.i64 0, Value.int IntKind.i64 0, Value.slice none 0 0]) true)) (.str (PR.id p) :: .str (PR.code p) :: .str (PR.brand p) :: .int .i64 (PR.d p) :: .int .i64 (PR.c p) :: .int .i64 (PR.q p) :: .view 2 (PR.na p) (atRow (PR.nm p) (PR.vl p)) :: List.append [] (List.flatten (List.replicate (nat_lit 0) [.str ([]), .str ([]), .str ([]), .int .i64 0, .int .i64 0, .int .i64 0, .nil]))))) false)] [(0, .cells [.view 1 n (intRow v), .int .i64 (CatS.a i')] 28), (1, .row 96 7 (CatS.c i') (pdRow (CatS.g i')) false)]) ∧ P i') ((∀ (i_1 : Nat), i_1 < CatS.c i → true = true) ∧ ∃ (O' : List (Nat × AObj)), RowsEq [(0, .cells [.view 1 n (intRow v), .int .i64 (CatS.a i)] 28), (1, .row 96 7 (CatS.c i) (pdRow (CatS.g i)) false)] O' ∧ R (.exit 0) (St.mk [(7, .own 1 (CatS.c i))] O' 2 []))) := by kernel_rfl

theorem itemV_ok (hP : C.P = Tryz.prog) : RSpecOK C 60 R_itemV := by
  rintro args objs R h
  unfold R_itemV at h
  split at h
  · rename_i k sz n f a t
    obtain ⟨rfl, rfl, hf, ha, hR⟩ := h
    exact ACalls.frz 1 (item_ok hP _ _ _ ⟨rfl, rfl, hf, ha, fun id code brand d c q nm vl a' l1 l2 l3 l4 ha' hid hval => ⟨122, 2, 2, atRow nm vl, false, rfl, fun i hi => rfl, hR ⟨id, code, brand, d, c, q, 2, nm, vl⟩ a' ⟨l1, l2, l3, ⟨Nat.le_of_ble_eq_true rfl, Nat.le_of_ble_eq_true rfl⟩, l4⟩ ha' hid hval⟩⟩)
  · exact h.elim
theorem pd_ap (g : Nat → PR) (c : Nat) (p : PR) (F : Nat → List AV) (hF : F 0 = [.str p.id, .str p.code, .str p.brand, .int .i64 p.d, .int .i64 p.c, .int .i64 p.q, .view 2 p.na (atRow p.nm p.vl)]) (j : Nat) (hj : j < c + 1) : apF c (pdRow g) F j = pdRow (PR.put g c p) j := by
  unfold apF
  by_cases h : j < c
  · simp [h, pdRow, PR.put]
  · have : j = c := by omega
    subst this
    simp [pdRow, PR.put, hF]

theorem cat_loop (hP : C.P = Tryz.prog) (n : Nat) (v : Nat → Int) (a k N : Int) : LoopOK C 1 26 (loopC Tryz.f26 3) (L_cat n v a k N) := by
  rintro st Q ⟨h0, hN, hk, ha, hQ⟩
  refine AWP.ownNil 7 96 7 ?_
  refine LoopOK.mk (prg hP) [(60, .rel R_itemV)] 0 (.cons (itemV_ok hP) .nil) [0, 1, 7, 12, 13] [7] [] (S_cat n v k N) (fun i => (i.c : Int) ≤ N ∧ i.a = a + 5 * i.c ∧ ∀ j, j < i.c → (i.g j).Short) (fun i => N.toNat - i.c) ⟨0, fun _ => default, a⟩
    ⟨hN.1, by show a = a + 5 * ((0 : Nat) : Int); omega, fun j hj => absurd hj (Nat.not_lt_zero j)⟩ h0 (fun i hi => ?_) (fun i => ⟨fun _ _ => rfl, trivial⟩)
  obtain ⟨h1, h2, h3⟩ := hi
  rw [nf_cat_round]
  refine condP_dec (fun q => ?_) (fun q => ⟨fun _ _ => rfl, _, rowsEqR _, hQ i (by omega) h2 h3⟩)
  refine ⟨by simp only [inR]; omega, rfl, rfl, rfl, ⟨by omega, by omega⟩, fun p a' hp ha' _ _ => ⟨⟨by omega, rfl, by omega⟩, ⟨⟨Nat.le_refl _, rfl⟩, Nat.le_refl _, rfl, rfl, rfl, by omega, ?_⟩, by simp only [inR]; omega, ⟨i.c + 1, PR.put i.g i.c p, a'⟩, ⟨rfl, rfl, ⟨rfl, rfl, rfl, rfl, rfl, fun j hj => ?_⟩, trivial⟩, ⟨?_, ?_, fun j hj => ?_⟩, ?_⟩⟩
  · show (i.c + 1) * 96 ≤ _
    omega
  · exact pd_ap i.g i.c p _ rfl j hj
  · show ((i.c + 1 : Nat) : Int) ≤ N
    omega
  · show a' = a + 5 * ((i.c + 1 : Nat) : Int)
    omega
  · show (PR.put i.g i.c p j).Short
    unfold PR.put
    have hj : j < i.c + 1 := hj
    by_cases h : j < i.c
    · rw [decide_eq_true h]; exact h3 j h
    · rw [decide_eq_false h]; exact hp
  · show N.toNat - (i.c + 1) < N.toNat - i.c
    omega

theorem cat_ok (hP : C.P = Tryz.prog) : RSpecOK C 26 R_catalog := by
  rintro args objs R h
  unfold R_catalog at h
  split at h
  · rename_i k most sz n f a t
    obtain ⟨rfl, rfl, hf, ha, hk, hm, hR⟩ := h
    rw [hf] at hR ⊢
    generalize vInt f = v at *
    refine RSpecOK.wpL (prg hP) [(60, .rel R_itemV), (27, .det S_next)] [(3, L_cat n v (a + 1) k (nextV n v a (most + 1)))] 0 (.cons (itemV_ok hP) (.cons (next_ok hP) .nil)) (hP ▸ Tryz.func26) rfl rfl rfl [(loopC Tryz.f26 3, L_cat n v (a + 1) k (nextV n v a (most + 1)))] (by kernel_rfl) ⟨cat_loop hP _ _ _ _ _, trivial⟩ ?_
    rw [nf_cat]
    have r := nextV_range (show (1 : Int) ≤ most + 1 by omega) n v a
    exact ⟨by simp only [inR]; omega, ⟨rfl, rfl, rfl, ⟨by omega, by omega⟩, by omega, by omega⟩, ⟨rfl, rfl, ⟨rfl, rfl, rfl, rfl, rfl, fun i hi => absurd hi (Nat.not_lt_zero i)⟩, trivial⟩, ⟨by omega, by omega⟩, hk, ⟨by omega, by omega⟩, fun i h1 h2 h3 => ⟨fun _ _ => rfl, _, rowsEqR _, hR i.c i.g i.a (by omega) (by omega) h3⟩⟩
  · exact h.elim

end Go.Eng
