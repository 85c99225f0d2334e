/- Lemmas that the tied card of ScannerValid is proved by. -/
import Derived.Test.YtokpcnppihgdlaaGreatDoorGo
import Derived.Test.YtokpcnppihgdlaaGreatDoorGr
import Derived.Shelf.SlGeneric
import Derived.Ground.SlsfProg
import Derived.Shelf.SlSortCmp.NoneTotal
import Derived.Test.YtokpcnppihgdlaaGreatDoorProg
import Derived.Test.YtokpcnppihgdlaaGreatDoorGi
import Derived.Test.YtokpcnppihgdlaaGreatDoorGh
/- The tape. -/
namespace Go.Eng
open Go.Proofs Go.RowKit
variable {C : Ctx} [C.Loose]
set_option maxRecDepth 20000
theorem nf_fold (n k : Int) (R : AV → List (Nat × AObj) → Prop) : wpFn te [] [] 0 Tryz.f23 [.int .i64 n, .int .i64 k] [] R = (True ∧ True ∧ IntKind.wrap IntKind.u64 (max k (1 : Int)) ≠ (0 : Int) ∧ inR .i64 (Int.tmod (IntKind.wrap IntKind.u64 n) (IntKind.wrap IntKind.u64 (max k (1 : Int)))) ∧ R (.int .i64 (Int.tmod (IntKind.wrap IntKind.u64 n) (IntKind.wrap IntKind.u64 (max k (1 : Int))))) []) := by kernel_rfl
theorem nf_next (n : Nat) (v : Nat → Int) (a k : Int) (R : AV → List (Nat × AObj) → Prop) : wpFn te [] [] 0 Tryz.f27 [.ptr 0 0, .int .i64 k] [.cells [.view 1 n (intRow v), .int .i64 a] 28] R = (condP (decide (a < (↑n : Int))) (((0 : Int) ≤ a ∧ a < (↑n : Int) ∧ 1 = 1) ∧ inR .i64 (a + (1 : Int)) ∧ True ∧ True ∧ IntKind.wrap IntKind.u64 (max k (1 : Int)) ≠ (0 : Int) ∧ inR .i64 (Int.tmod (IntKind.wrap IntKind.u64 (v (Int.toNat a))) (IntKind.wrap IntKind.u64 (max k (1 : Int)))) ∧ R (.int .i64 (Int.tmod (IntKind.wrap IntKind.u64 (v (Int.toNat a))) (IntKind.wrap IntKind.u64 (max k (1 : Int))))) [(0, .cells [.view 1 n (intRow v), .int .i64 (a + (1 : Int))] 28)]) (inR .i64 (a + (1 : Int)) ∧ True ∧ True ∧ IntKind.wrap IntKind.u64 (max k (1 : Int)) ≠ (0 : Int) ∧ inR .i64 (Int.tmod (IntKind.wrap IntKind.u64 0) (IntKind.wrap IntKind.u64 (max k (1 : Int)))) ∧ R (.int .i64 (Int.tmod (IntKind.wrap IntKind.u64 0) (IntKind.wrap IntKind.u64 (max k (1 : Int))))) [(0, .cells [.view 1 n (intRow v), .int .i64 (a + (1 : Int))] 28)])) := by kernel_rfl

theorem wrap_u64 (n : Int) : IntKind.wrap .u64 n = n % 18446744073709551616 := by
  show n % (2 : Int) ^ 64 = _
  rfl
theorem next_val {k : Int} (h : 1 ≤ k ∧ k ≤ 1000000) (x : Int) : IntKind.wrap .u64 (max k 1) ≠ 0 ∧ Int.tmod (IntKind.wrap .u64 x) (IntKind.wrap .u64 (max k 1)) = foldV x k := by
  have e : IntKind.wrap .u64 (max k 1) = k := by
    rw [wrap_u64, Int.max_eq_left h.1]
    omega
  rw [e, wrap_u64]
  have hx : 0 ≤ x % 18446744073709551616 := by omega
  rw [Int.tmod_eq_emod_of_nonneg hx]
  exact ⟨by omega, rfl⟩

theorem fold_ok (hP : C.P = Tryz.prog) : SpecOK C 23 S_fold := by
  have _ : C.Loose := inferInstance
  rintro args objs U Os vc h hvc
  unfold S_fold at h
  split at h <;> simp only [Option.some.injEq, Prod.mk.injEq, reduceCtorEq] at h
  rename_i n k
  obtain ⟨rfl, rfl, rfl⟩ := h
  refine SpecOK.wp0 (prg hP) [] 0 .nil (hP ▸ Tryz.func23) rfl rfl rfl ?_
  rw [nf_fold]
  obtain ⟨h1, h2⟩ := next_val hvc n
  have h3 := foldV_range hvc.1 n
  rw [h2]
  exact ⟨trivial, trivial, h1, by simp only [inR]; omega, rfl, rfl⟩

theorem next_ok (hP : C.P = Tryz.prog) : SpecOK C 27 S_next := by
  have _ : C.Loose := inferInstance
  rintro args objs U Os vc h hvc
  unfold S_next at h
  split at h <;> simp only [Option.some.injEq, Prod.mk.injEq, reduceCtorEq] at h
  rename_i k sz n f a t
  obtain ⟨rfl, rfl, rfl⟩ := h
  obtain ⟨rfl, rfl, hf, hk, ha⟩ := hvc
  rw [hf]
  have hv : vInt (intRow (vInt f)) = vInt f := rfl
  rw [hv]
  generalize vInt f = v at *
  refine SpecOK.wp0 (prg hP) [] 0 .nil (hP ▸ Tryz.func27) rfl rfl rfl ?_
  rw [nf_next]
  unfold nextV
  refine condP_dec (fun h => ?_) (fun h => ?_)
  · obtain ⟨h1, h2⟩ := next_val hk (v a.toNat)
    have h3 := foldV_range hk.1 (v a.toNat)
    rw [h2, decide_eq_true h]
    exact ⟨⟨by omega, by omega, rfl⟩, by simp only [inR]; omega, trivial, trivial, h1, by simp only [inR]; omega, rfl, rfl⟩
  · obtain ⟨h1, h2⟩ := next_val hk 0
    have h3 := foldV_range hk.1 0
    rw [h2, decide_eq_false h]
    exact ⟨by simp only [inR]; omega, trivial, trivial, h1, by simp only [inR]; omega, rfl, rfl⟩

theorem nf_id_round (V j : Nat) (P : Nat → Prop) (R : Exit → St → Prop) : roundP ⟨te, [], [], 0, 39, 0⟩ (loopB Tryz.f43 4) [3, 4, 5] [4] [] (S_idl V) P R (S_idl V j) = (condP (decide ((0 : Int) ≤ (6 : Int) - (↑j : Int))) ((10 : Int) ≠ (0 : Int) ∧ inR .i64 ((48 : Int) + Int.tmod (↑(pw V j) : Int) (10 : Int)) ∧ inR .u8 ((48 : Int) + Int.tmod (↑(pw V j) : Int) (10 : Int)) ∧ ((0 : Int) ≤ (6 : Int) - (↑j : Int) ∧ (6 : Int) - (↑j : Int) < (↑7 : Int)) ∧ (List.length [AV.int .u8 ((48 : Int) + Int.tmod (↑(pw V j) : Int) (10 : Int))] = 1 ∧ Int.toNat ((6 : Int) - (↑j : Int)) < 7 ∧ 1 = 1) ∧ ((10 : Int) ≠ (0 : Int) ∧ inR .i64 (Int.tdiv (↑(pw V j) : Int) (10 : Int))) ∧ inR .i64 ((6 : Int) - (↑j : Int) - (1 : Int)) ∧ ∃ (i' : Nat), (TEq [(3, .int .i64 (Int.tdiv (↑(pw V j) : Int) (10 : Int))), (4, .own 0 7), (5, .int .i64 ((6 : Int) - (↑j : Int) - (1 : Int)))] [(3, .int .i64 (↑(pw V i') : Int)), (4, .own 0 7), (5, .int .i64 ((6 : Int) - (↑i' : Int)))] ∧ RowsEq [(0, .row 5 1 7 (fun (k : Nat) => if k = Int.toNat ((6 : Int) - (↑j : Int)) then [.int .u8 ((48 : Int) + Int.tmod (↑(pw V j) : Int) (10 : Int))] else [.int .u8 (bif decide (7 ≤ k + j) then dgI V k else (0 : Int))]) false)] [(0, .row 5 1 7 (fun (k : Nat) => [.int .u8 (bif decide (7 ≤ k + i') then dgI V k else (0 : Int))]) false)]) ∧ P i') ((∀ (i : Nat), i < 7 → true = true) ∧ ∃ (O' : List (Nat × AObj)), RowsEq [(0, .row 5 1 7 (fun (k : Nat) => [.int .u8 (bif decide (7 ≤ k + j) then dgI V k else (0 : Int))]) false)] O' ∧ R (.exit 0) (St.mk [(4, .own 0 7)] O' 1 []))) := by kernel_rfl
theorem nf_id (n : Int) (V : Nat) (R : AV → List (Nat × AObj) → Prop) : wpFn te [(23, .det S_fold), (85, .det S_checkDigit)] [(4, L_id V)] 2 Tryz.f43 [.int .i64 n] [] R = (((1 : Int) ≤ (1000000 : Int) ∧ (1000000 : Int) ≤ (1000000 : Int)) ∧ inR .i64 ((1000000 : Int) + foldV n (1000000 : Int)) ∧ ((0 : Int) ≤ (7 : Int) ∧ (7 : Int) ≤ (7 : Int) ∧ (↑(TI.bytes (TI.mk (TypeDesc.int IntKind.u8) 1 1 (Value.int IntKind.u8 0) false)) : Int) * (7 : Int) ≤ (281474976710656 : Int) ∧ (7 : Int) ≤ (9223372036854775807 : Int)) ∧ (TEq [(3, .int .i64 ((1000000 : Int) + foldV n (1000000 : Int))), (4, .own 0 7), (5, .int .i64 6)] [(3, .int .i64 (↑(pw V 0) : Int)), (4, .own 0 7), (5, .int .i64 ((6 : Int) - (↑0 : Int)))] ∧ RowsEq [(0, .row 5 1 7 (fun (x : Nat) => [.int .u8 0]) false)] [(0, .row 5 1 7 (fun (k : Nat) => [.int .u8 (bif decide (7 ≤ k + 0) then dgI V k else (0 : Int))]) false)]) ∧ V < 2000000 ∧ ((7 ≤ 7 ∧ 1 = 1) ∧ ∀ (i : Nat), i < 7 → isU8 (idRow V i) = true) ∧ True ∧ ((7 ≤ 7 ∧ 1 = 1) ∧ ∀ (i : Nat), i < 7 → isU8 (idRow V i) = true) ∧ inR .i64 ((48 : Int) + Prod.fst (cdF (bytesA 7 (idRow V)))) ∧ inR .u8 ((48 : Int) + Prod.fst (cdF (bytesA 7 (idRow V)))) ∧ (1 ≤ 16777216 ∧ 1 = 1 ∧ 1 ≤ 9223372036854775807) ∧ ((1 ≤ 1 ∧ 1 = 1) ∧ ∀ (i : Nat), i < 1 → isU8 (chunkA (TI.sz (TI.mk (TypeDesc.int IntKind.u8) 1 1 (Value.int IntKind.u8 0) false)) (.int .u8 ((48 : Int) + Prod.fst (cdF (bytesA 7 (idRow V)))) :: List.append [] (List.flatten (List.replicate (nat_lit 0) [.int .u8 0]))) i) = true) ∧ List.length (bytesA 7 (idRow V)) + List.length (bytesA 1 (chunkA (TI.sz (TI.mk (TypeDesc.int IntKind.u8) 1 1 (Value.int IntKind.u8 0) false)) (.int .u8 ((48 : Int) + Prod.fst (cdF (bytesA 7 (idRow V)))) :: List.append [] (List.flatten (List.replicate (nat_lit 0) [.int .u8 0]))))) ≤ 9223372036854775807 ∧ R (.str (bytesA 7 (idRow V) ++ bytesA 1 (chunkA (TI.sz (TI.mk (TypeDesc.int IntKind.u8) 1 1 (Value.int IntKind.u8 0) false)) (.int .u8 ((48 : Int) + Prod.fst (cdF (bytesA 7 (idRow V)))) :: List.append [] (List.flatten (List.replicate (nat_lit 0) [.int .u8 0])))))) []) := by kernel_rfl

theorem pw_step (V j : Nat) : Int.tdiv (pw V j : Nat) 10 = (pw V (j + 1) : Nat) := by
  rw [Int.tdiv_eq_ediv_of_nonneg (Int.natCast_nonneg _)]
  unfold pw
  rw [Nat.pow_succ, ← Nat.div_div_eq_div_mul]
  rfl
theorem pw_le (V j : Nat) : pw V j ≤ V := Nat.div_le_self _ _
theorem id_loop (hP : C.P = Tryz.prog) (V : Nat) : LoopOK C 0 39 (loopC Tryz.f43 4) (L_id V) := by
  have _ : C.Loose := inferInstance
  rintro st Q ⟨h0, hv, hQ⟩
  refine LoopOK.mk (prg hP) [] 0 .nil [3, 4, 5] [4] [] (S_idl V) (fun j => j ≤ 7) (fun j => 7 - j) 0 (by omega) h0 (fun j hj => ?_) (fun i => ⟨fun _ _ => rfl, trivial⟩)
  rw [nf_id_round]
  have hle := pw_le V j
  have ht : Int.tmod (pw V j : Nat) 10 = ((pw V j % 10 : Nat) : Int) := by
    rw [Int.tmod_eq_emod_of_nonneg (Int.natCast_nonneg _)]; rfl
  rw [ht, pw_step]
  have hle' := pw_le V (j + 1)
  have hm := Nat.mod_lt (pw V j) (show 0 < 10 by omega)
  refine condP_dec (fun h => ?_) (fun h => ⟨fun _ _ => rfl, _, ?_, hQ⟩)
  · refine ⟨by omega, by simp only [inR]; omega, by simp only [inR]; omega, ⟨h, by omega⟩, ⟨rfl, by omega, rfl⟩, ⟨by omega, by simp only [inR]; omega⟩, by simp only [inR]; omega, j + 1, ⟨?_, ⟨rfl, rfl, rfl, rfl, rfl, fun k hk => ?_⟩, trivial⟩, by omega, by omega⟩
    · rw [show (6 : Int) - (j : Int) - 1 = 6 - ((j + 1 : Nat) : Int) by omega]
      rfl
    · dsimp only
      split
      · rename_i e
        have e' : 6 - k = j := by omega
        rw [decide_eq_true (show 7 ≤ k + (j + 1) by omega)]
        unfold dgI
        rw [e']; rfl
      · rename_i e
        by_cases h7 : 7 ≤ k + j
        · rw [decide_eq_true h7, decide_eq_true (show 7 ≤ k + (j + 1) by omega)]
        · rw [decide_eq_false h7, decide_eq_false (show ¬ 7 ≤ k + (j + 1) by omega)]
  · have : j = 7 := by omega
    subst this
    refine ⟨⟨rfl, rfl, rfl, rfl, rfl, fun k hk => ?_⟩, trivial⟩
    dsimp only
    rw [decide_eq_true (show 7 ≤ k + 7 by omega)]
    rfl

theorem id_ok (hP : C.P = Tryz.prog) : SpecOK C 43 S_id := by
  rintro args objs U Os vc h hvc
  unfold S_id at h
  split at h <;> simp only [Option.some.injEq, Prod.mk.injEq, reduceCtorEq] at h
  rename_i n
  obtain ⟨rfl, rfl, rfl⟩ := h
  refine SpecOK.wpL (prg hP) [(23, .det S_fold), (85, .det S_checkDigit)] [(4, L_id (idV n))] 2 (.cons (fold_ok hP) (.cons (cdR_ok hP) .nil)) (hP ▸ Tryz.func43) rfl rfl rfl [(loopC Tryz.f43 4, L_id (idV n))] (by kernel_rfl) ⟨id_loop hP _, trivial⟩ ?_
  rw [nf_id]
  have hf := foldV_range (show (1 : Int) ≤ 1000000 by omega) n
  have hV : ((idV n : Nat) : Int) = 1000000 + foldV n 1000000 := by unfold idV; omega
  have hl := id7_len n
  have hc := cdF_range (id7 n)
  refine ⟨⟨by omega, by omega⟩, by simp only [inR]; omega, ⟨by omega, by omega, by decide, by omega⟩, ⟨?_, ⟨rfl, rfl, rfl, rfl, rfl, fun k hk => ?_⟩, trivial⟩, by omega, ⟨⟨by omega, rfl⟩, fun _ _ => rfl⟩, trivial, ⟨⟨by omega, rfl⟩, fun _ _ => rfl⟩, ?_, ?_, ⟨by omega, rfl, by omega⟩, ⟨⟨by omega, rfl⟩, fun i hi => ?_⟩, ?_, rfl, rfl⟩
  · rw [← hV]
    show TEq [(3, .int .i64 ((idV n : Nat) : Int)), (4, .own 0 7), (5, .int .i64 6)] [(3, .int .i64 ((idV n / 1 : Nat) : Int)), (4, .own 0 7), (5, .int .i64 6)]
    rw [Nat.div_one]; rfl
  · dsimp only
    rw [decide_eq_false (show ¬ 7 ≤ k + 0 by omega)]; rfl
  · show inR .i64 (48 + (cdF (id7 n)).1)
    simp only [inR]; omega
  · show inR .u8 (48 + (cdF (id7 n)).1)
    simp only [inR]; omega
  · obtain rfl : i = 0 := by omega
    rfl
  · show (id7 n).length + _ ≤ _
    rw [hl]; simp [bytesA]

end Go.Eng
/- Rows of a scanner: what Validate answers; rows of a tape. -/
namespace Go.Eng
open Go.Proofs Go.RowKit
variable {C : Ctx} [C.Loose]
set_option maxRecDepth 20000
theorem nf_sname (s : List UInt8) (R : AV → List (Nat × AObj) → Prop) : wpFn te [(33, .det S_msg)] [] 0 Tryz.f91 [.str s] [] R = ((List.length s < 4294967281 ∧ 0 < 4294967281 ∧ 0 < 4294967281 ∧ 0 < 4294967281) ∧ R (.bool !decide (msgF (MG.mk s (0 : Int) (0 : Int) (VT.mk [] [] (0 : Int) (0 : Int) (0 : Int) (0 : Int) []) (DT.mk [] [] (0 : Int) [] (0 : Int))) = (110 : Int))) []) := by kernel_rfl
theorem nf_valid (o p : List UInt8) (per u tv : Int) (R : AV → List (Nat × AObj) → Prop) : wpFn te [(91, .det S_sname), (92, .det S_validID)] [] 0 Tryz.f58 [.agg [.str o, .str p, .int .i64 per, .int .i64 u, .int .i64 tv]] [] R = (List.length o < 4294967281 ∧ condP (nameF o) (True ∧ condP (validIDF p) (condP (decide ((0 : Int) ≤ per)) (condP (decide (per ≤ (5999 : Int))) (condP (decide ((1 : Int) ≤ min u tv)) (R (.bool (decide (max u tv ≤ (1099511627776 : Int)))) []) (R (.bool false) [])) (R (.bool false) [])) (R (.bool false) [])) (R (.bool false) [])) (R (.bool false) [])) := by kernel_rfl
theorem nf_sv (g : Nat → RW) (n : Nat) (R : AV → List (Nat × AObj) → Prop) : wpFn te [(58, .det S_valid)] [(4, L_sv g n)] 0 Tryz.f19 [.view 5 n (rwRow g)] [] R = (condP (decide ((24000 : Int) < (↑n : Int))) (R (.int .i64 130) []) (some (St.mk [(8, .view 5 n (rwRow g)), (9, .int .i64 (↑n : Int)), (10, .int .i64 0)] [] 0 []) = some (St.mk [(8, .view 5 n (rwRow g)), (9, .int .i64 (↑n : Int)), (10, .int .i64 (↑0 : Int))] [] 0 []) ∧ n ≤ 24000 ∧ (∀ (i : Nat), i < n → List.length (RW.o (g i)) < 4294967281) ∧ condP (allRows g n) (R (.int .i64 0) []) (R (.int .i64 131) []))) := by kernel_rfl
theorem nf_sv_round (g : Nat → RW) (n k : Nat) (P : Nat → Prop) (R : Exit → St → Prop) : roundP ⟨te, [(58, .det S_valid)], [], 0, 18, 0⟩ (loopB Tryz.f19 4) [8, 9, 10] [] [2] (S_sv g n) P R (S_sv g n k) = (condP (decide ((↑k : Int) < (↑n : Int))) (((0 : Int) ≤ (↑k : Int) ∧ (↑k : Int) < (↑n : Int) ∧ 5 = 5) ∧ List.length (RW.o (g (Int.toNat (↑k : Int)))) < 4294967281 ∧ condP (!rowF (RW.mk (RW.o (g (Int.toNat (↑k : Int)))) (RW.p (g (Int.toNat (↑k : Int)))) (RW.per (g (Int.toNat (↑k : Int)))) (RW.u (g (Int.toNat (↑k : Int)))) (RW.tv (g (Int.toNat (↑k : Int)))))) (R .ret (St.mk [(2, .int .i64 131)] [] 0 [])) (inR .i64 ((↑k : Int) + (1 : Int)) ∧ ∃ (i' : Nat), some (St.mk [(8, .view 5 n (rwRow g)), (9, .int .i64 (↑n : Int)), (10, .int .i64 ((↑k : Int) + (1 : Int)))] [] 0 []) = some (St.mk [(8, .view 5 n (rwRow g)), (9, .int .i64 (↑n : Int)), (10, .int .i64 (↑i' : Int))] [] 0 []) ∧ P i')) (R (.exit 0) (St.mk [] [] 0 []))) := by kernel_rfl
theorem nf_outlet (n : Nat) (v : Nat → Int) (a : Int) (R : AV → List (Nat × AObj) → Prop) : wpFn te [(27, .det S_next)] [] 0 Tryz.f47 [.ptr 0 0] [.cells [.view 1 n (intRow v), .int .i64 a] 28] R = ((3 ≤ 16777216 ∧ 1 = 1 ∧ 3 ≤ 9223372036854775807) ∧ (28 = 28 ∧ 1 = 1 ∧ intRow v = intRow (vInt (intRow v)) ∧ ((1 : Int) ≤ (3 : Int) ∧ (3 : Int) ≤ (1000000 : Int)) ∧ (0 : Int) ≤ a ∧ a ≤ (4611686018427387904 : Int)) ∧ ((0 : Int) ≤ nextV n (vInt (intRow v)) a (3 : Int) ∧ nextV n (vInt (intRow v)) a (3 : Int) < (↑3 : Int)) ∧ (Int.toNat (nextV n (vInt (intRow v)) a (3 : Int)) < 3 ∧ 1 = 1) ∧ R (.str (List.getD [[(111 : UInt8), 49], [(111 : UInt8), 50], [(112 : UInt8)]] (Int.toNat (nextV n (vInt (intRow v)) a (3 : Int))) [])) [(0, .cells [.view 1 n (intRow v), .int .i64 (a + (1 : Int))] 28)]) := by kernel_rfl
theorem nf_tproduct (n : Nat) (v : Nat → Int) (a : Int) (R : AV → List (Nat × AObj) → Prop) : wpFn te [(27, .det S_next), (43, .det S_id)] [] 0 Tryz.f48 [.ptr 0 0] [.cells [.view 1 n (intRow v), .int .i64 a] 28] R = ((28 = 28 ∧ 1 = 1 ∧ intRow v = intRow (vInt (intRow v)) ∧ ((1 : Int) ≤ (4 : Int) ∧ (4 : Int) ≤ (1000000 : Int)) ∧ (0 : Int) ≤ a ∧ a ≤ (4611686018427387904 : Int)) ∧ True ∧ R (.str (idF (nextV n (vInt (intRow v)) a (4 : Int)))) [(0, .cells [.view 1 n (intRow v), .int .i64 (a + (1 : Int))] 28)]) := by kernel_rfl
theorem nf_trow (n : Nat) (v : Nat → Int) (a : Int) (R : AV → List (Nat × AObj) → Prop) : wpFn te [(27, .det S_next), (47, .det S_outlet), (48, .det S_product)] [] 0 Tryz.f24 [.ptr 0 0] [.cells [.view 1 n (intRow v), .int .i64 a] 28] R = ((28 = 28 ∧ 1 = 1 ∧ intRow v = intRow (vInt (intRow v)) ∧ ((1 : Int) ≤ (20 : Int) ∧ (20 : Int) ≤ (1000000 : Int)) ∧ (0 : Int) ≤ a ∧ a ≤ (4611686018427387904 : Int)) ∧ inR .i64 ((1 : Int) + nextV n (vInt (intRow v)) a (20 : Int)) ∧ (28 = 28 ∧ 1 = 1 ∧ intRow v = intRow (vInt (intRow v)) ∧ (0 : Int) ≤ a + (1 : Int) ∧ a + (1 : Int) ≤ (4611686018427387000 : Int)) ∧ (28 = 28 ∧ 1 = 1 ∧ intRow v = intRow (vInt (intRow v)) ∧ (0 : Int) ≤ a + (1 : Int) + (1 : Int) ∧ a + (1 : Int) + (1 : Int) ≤ (4611686018427387000 : Int)) ∧ (28 = 28 ∧ 1 = 1 ∧ intRow v = intRow (vInt (intRow v)) ∧ ((1 : Int) ≤ (4 : Int) ∧ (4 : Int) ≤ (1000000 : Int)) ∧ (0 : Int) ≤ a + (1 : Int) + (1 : Int) + (1 : Int) ∧ a + (1 : Int) + (1 : Int) + (1 : Int) ≤ (4611686018427387904 : Int)) ∧ inR .i64 ((1440 : Int) + nextV n (vInt (intRow v)) (a + (1 : Int) + (1 : Int) + (1 : Int)) (4 : Int)) ∧ (28 = 28 ∧ 1 = 1 ∧ intRow v = intRow (vInt (intRow v)) ∧ ((1 : Int) ≤ (30 : Int) ∧ (30 : Int) ≤ (1000000 : Int)) ∧ (0 : Int) ≤ a + (1 : Int) + (1 : Int) + (1 : Int) + (1 : Int) ∧ a + (1 : Int) + (1 : Int) + (1 : Int) + (1 : Int) ≤ (4611686018427387904 : Int)) ∧ inR .i64 ((90 : Int) + nextV n (vInt (intRow v)) (a + (1 : Int) + (1 : Int) + (1 : Int) + (1 : Int)) (30 : Int)) ∧ inR .i64 (((1 : Int) + nextV n (vInt (intRow v)) a (20 : Int)) * ((90 : Int) + nextV n (vInt (intRow v)) (a + (1 : Int) + (1 : Int) + (1 : Int) + (1 : Int)) (30 : Int))) ∧ (28 = 28 ∧ 1 = 1 ∧ intRow v = intRow (vInt (intRow v)) ∧ ((1 : Int) ≤ (3 : Int) ∧ (3 : Int) ≤ (1000000 : Int)) ∧ (0 : Int) ≤ a + (1 : Int) + (1 : Int) + (1 : Int) + (1 : Int) + (1 : Int) ∧ a + (1 : Int) + (1 : Int) + (1 : Int) + (1 : Int) + (1 : Int) ≤ (4611686018427387904 : Int)) ∧ inR .i64 (((1 : Int) + nextV n (vInt (intRow v)) a (20 : Int)) * ((90 : Int) + nextV n (vInt (intRow v)) (a + (1 : Int) + (1 : Int) + (1 : Int) + (1 : Int)) (30 : Int)) + nextV n (vInt (intRow v)) (a + (1 : Int) + (1 : Int) + (1 : Int) + (1 : Int) + (1 : Int)) (3 : Int)) ∧ (True ∧ True) ∧ R (.agg [.str (outF (nextV n (vInt (intRow v)) (a + (1 : Int)) (3 : Int))), .str (idF (nextV n (vInt (intRow v)) (a + (1 : Int) + (1 : Int)) (4 : Int))), .int .i64 ((1440 : Int) + nextV n (vInt (intRow v)) (a + (1 : Int) + (1 : Int) + (1 : Int)) (4 : Int)), .int .i64 ((1 : Int) + nextV n (vInt (intRow v)) a (20 : Int)), .int .i64 (((1 : Int) + nextV n (vInt (intRow v)) a (20 : Int)) * ((90 : Int) + nextV n (vInt (intRow v)) (a + (1 : Int) + (1 : Int) + (1 : Int) + (1 : Int)) (30 : Int)) + nextV n (vInt (intRow v)) (a + (1 : Int) + (1 : Int) + (1 : Int) + (1 : Int) + (1 : Int)) (3 : Int))]) [(0, .cells [.view 1 n (intRow v), .int .i64 (a + (1 : Int) + (1 : Int) + (1 : Int) + (1 : Int) + (1 : Int) + (1 : Int))] 28)]) := by kernel_rfl

theorem sname_ok (hP : C.P = Tryz.prog) (hL : ∀ w, C.laid w → LaidW w) : SpecOK C 91 S_sname := by
  rintro args objs U Os vc h hvc
  unfold S_sname at h
  split at h <;> simp only [Option.some.injEq, Prod.mk.injEq, reduceCtorEq] at h
  rename_i s
  obtain ⟨rfl, rfl, rfl⟩ := h
  refine SpecOK.wp0 (prg hP) [(33, .det S_msg)] 0 (.cons (msg_ok hP hL) .nil) (hP ▸ Tryz.func91) rfl rfl rfl ?_
  rw [nf_sname]
  refine ⟨⟨hvc, by omega, by omega, by omega⟩, ?_, rfl⟩
  unfold msgF
  cases nameF s <;> rfl

theorem valid_ok (hP : C.P = Tryz.prog) (hL : ∀ w, C.laid w → LaidW w) : SpecOK C 58 S_valid := by
  rintro args objs U Os vc h hvc
  unfold S_valid at h
  split at h <;> simp only [Option.some.injEq, Prod.mk.injEq, reduceCtorEq] at h
  rename_i o p per u tv
  obtain ⟨rfl, rfl, rfl⟩ := h
  refine SpecOK.wp0 (prg hP) [(91, .det S_sname), (92, .det S_validID)] 0 (.cons (sname_ok hP hL) (.cons (validID_ok hP (trim_ok hP)) .nil)) (hP ▸ Tryz.func58) rfl rfl rfl ?_
  rw [nf_valid]
  unfold rowF slotF
  dsimp only
  generalize nameF o = b1, validIDF p = b2, decide (0 ≤ per) = b3, decide (per ≤ 5999) = b4, decide (1 ≤ min u tv) = b5, decide (max u tv ≤ 1099511627776) = b6
  refine ⟨hvc, ?_⟩
  cases b1
  · exact ⟨rfl, rfl⟩
  refine ⟨trivial, ?_⟩
  cases b2
  · exact ⟨rfl, rfl⟩
  cases b3
  · exact ⟨rfl, rfl⟩
  cases b4
  · exact ⟨rfl, rfl⟩
  cases b5 <;> exact ⟨rfl, rfl⟩

theorem allRows_stop {g : Nat → RW} {k : Nat} (h : rowF (g k) = false) : ∀ n, k < n → allRows g n = false
  | 0, hn => by omega
  | n + 1, hn => by
    rw [allRows]
    by_cases e : k = n
    · subst e; rw [h, Bool.and_false]
    · rw [allRows_stop h n (by omega), Bool.false_and]
theorem sv_loop (hP : C.P = Tryz.prog) (hL : ∀ w, C.laid w → LaidW w) (g : Nat → RW) (n : Nat) : LoopOK C 0 18 (loopC Tryz.f19 4) (L_sv g n) := by
  rintro st Q ⟨h0, hn, hs, hQ⟩
  have hR := condP_elim hQ
  refine LoopOK.mk (prg hP) [(58, .det S_valid)] 0 (.cons (valid_ok hP hL) .nil) [8, 9, 10] [] [2] (S_sv g n) (fun k => k ≤ n ∧ allRows g k = true) (fun k => n - k) 0 ⟨Nat.zero_le _, rfl⟩ h0 (fun k hk => ?_)
  obtain ⟨hkn, hok⟩ := hk
  rw [nf_sv_round, Int.toNat_natCast]
  refine condP_dec (fun h1 => ?_) (fun h1 => ?_)
  · refine ⟨⟨by omega, by omega, rfl⟩, hs k (by omega), condP_not (fun h2 => hR.2 (allRows_stop h2 n (by omega))) (fun h2 => ⟨by simp only [inR]; omega, k + 1, rfl, ⟨by omega, ?_⟩, by omega⟩)⟩
    rw [allRows, hok]; exact h2
  · have : k = n := by omega
    subst this
    exact hR.1 hok
theorem sval_ok (hP : C.P = Tryz.prog) (hL : ∀ w, C.laid w → LaidW w) : SpecOK C 19 S_sval := by
  rintro args objs U Os vc h hvc
  unfold S_sval at h
  split at h <;> simp only [Option.some.injEq, Prod.mk.injEq, reduceCtorEq] at h
  rename_i n f
  obtain ⟨rfl, rfl, rfl⟩ := h
  obtain ⟨hn, hf, hs⟩ := hvc
  generalize rwOf f = g at *
  subst hf
  unfold svF
  refine SpecOK.wpL (prg hP) [(58, .det S_valid)] [(4, L_sv g n)] 0 (.cons (valid_ok hP hL) .nil) (hP ▸ Tryz.func19) rfl rfl rfl [(loopC Tryz.f19 4, L_sv g n)] (by kernel_rfl) ⟨sv_loop hP hL g n, trivial⟩ ?_
  rw [nf_sv]
  refine condP_dec (fun h1 => ?_) (fun h1 => ⟨rfl, by omega, hs, condP_intro (fun h2 => ?_) (fun h2 => ?_)⟩)
  · rw [decide_eq_true (show 24000 < n by omega)]; exact ⟨rfl, rfl⟩
  · rw [decide_eq_false (show ¬ 24000 < n by omega), h2]; exact ⟨rfl, rfl⟩
  · rw [decide_eq_false (show ¬ 24000 < n by omega), h2]; exact ⟨rfl, rfl⟩

theorem outlet_ok (hP : C.P = Tryz.prog) : SpecOK C 47 S_outlet := by
  rintro args objs U Os vc h hvc
  unfold S_outlet at h
  split at h <;> simp only [Option.some.injEq, Prod.mk.injEq, reduceCtorEq] at h
  rename_i sz n f a t
  obtain ⟨rfl, rfl, rfl⟩ := h
  obtain ⟨rfl, rfl, hf, h1, h2⟩ := hvc
  rw [hf]
  generalize vInt f = v
  have hw : vInt (intRow v) = v := rfl
  refine SpecOK.wp0 (prg hP) [(27, .det S_next)] 0 (.cons (next_ok hP) .nil) (hP ▸ Tryz.func47) rfl rfl rfl ?_
  rw [nf_outlet]
  have r := nextV_range (show (1 : Int) ≤ 3 by omega) n v a
  exact ⟨⟨by omega, rfl, by omega⟩, ⟨rfl, rfl, rfl, ⟨by omega, by omega⟩, by omega, by omega⟩, ⟨r.1, r.2⟩, ⟨by rw [hw]; omega, rfl⟩, rfl, rfl⟩

theorem tproduct_ok (hP : C.P = Tryz.prog) : SpecOK C 48 S_product := by
  rintro args objs U Os vc h hvc
  unfold S_product at h
  split at h <;> simp only [Option.some.injEq, Prod.mk.injEq, reduceCtorEq] at h
  rename_i sz n f a t
  obtain ⟨rfl, rfl, rfl⟩ := h
  obtain ⟨rfl, rfl, hf, h1, h2⟩ := hvc
  rw [hf]
  generalize vInt f = v
  have hw : vInt (intRow v) = v := rfl
  refine SpecOK.wp0 (prg hP) [(27, .det S_next), (43, .det S_id)] 0 (.cons (next_ok hP) (.cons (id_ok hP) .nil)) (hP ▸ Tryz.func48) rfl rfl rfl ?_
  rw [nf_tproduct]
  exact ⟨⟨rfl, rfl, rfl, ⟨by omega, by omega⟩, by omega, by omega⟩, trivial, rfl, rfl⟩

theorem rowV_bounds (n : Nat) (v : Nat → Int) (a : Int) : 1 ≤ (rowV n v a).u ∧ (rowV n v a).u ≤ 20 ∧ 90 ≤ (rowV n v a).tv ∧ (rowV n v a).tv ≤ 2382 := by
  have r1 := nextV_range (show (1 : Int) ≤ 20 by omega) n v a
  have r2 := nextV_range (show (1 : Int) ≤ 30 by omega) n v (a + 1 + 1 + 1 + 1)
  have r3 := nextV_range (show (1 : Int) ≤ 3 by omega) n v (a + 1 + 1 + 1 + 1 + 1)
  have b1 : (1 + nextV n v a 20) * (90 + nextV n v (a + 1 + 1 + 1 + 1) 30) ≤ 20 * 119 := Int.mul_le_mul (by omega) (by omega) (by omega) (by omega)
  have b2 : 1 * 90 ≤ (1 + nextV n v a 20) * (90 + nextV n v (a + 1 + 1 + 1 + 1) 30) := Int.mul_le_mul (by omega) (by omega) (by omega) (by omega)
  unfold rowV
  dsimp only
  refine ⟨by omega, by omega, ?_, ?_⟩ <;> omega
theorem outF_ok : ∀ i, i < 3 → nameF (List.getD [[111, 49], [111, 50], [112]] i []) = true ∧ (List.getD [[111, 49], [111, 50], [112]] i ([] : List UInt8)).length ≤ 2 := by decide +kernel
theorem rowV_ok (n : Nat) (v : Nat → Int) (a : Int) : rowF (rowV n v a) = true ∧ (rowV n v a).o.length ≤ 2 := by
  obtain ⟨b1, b2, b3, b4⟩ := rowV_bounds n v a
  have r1 := nextV_range (show (1 : Int) ≤ 3 by omega) n v (a + 1)
  have r2 := nextV_range (show (1 : Int) ≤ 4 by omega) n v (a + 1 + 1 + 1)
  have ho := outF_ok (nextV n v (a + 1) 3).toNat (by omega)
  refine ⟨?_, ho.2⟩
  unfold rowF slotF
  rw [show nameF (rowV n v a).o = true from ho.1, show validIDF (rowV n v a).p = true from idF_valid _, decide_eq_true (show 0 ≤ (rowV n v a).per by show 0 ≤ 1440 + nextV n v (a + 1 + 1 + 1) 4; omega), decide_eq_true (show (rowV n v a).per ≤ 5999 by show 1440 + nextV n v (a + 1 + 1 + 1) 4 ≤ 5999; omega),
    decide_eq_true (show 1 ≤ min (rowV n v a).u (rowV n v a).tv by omega), decide_eq_true (show max (rowV n v a).u (rowV n v a).tv ≤ 1099511627776 by omega)]
  rfl

theorem trow_ok (hP : C.P = Tryz.prog) : SpecOK C 24 S_trow := by
  rintro args objs U Os vc h hvc
  unfold S_trow at h
  split at h <;> simp only [Option.some.injEq, Prod.mk.injEq, reduceCtorEq] at h
  rename_i sz n f a t
  obtain ⟨rfl, rfl, rfl⟩ := h
  obtain ⟨rfl, rfl, hf, h1, h2⟩ := hvc
  rw [hf]
  generalize vInt f = v
  have hw : vInt (intRow v) = v := rfl
  refine SpecOK.wp0 (prg hP) [(27, .det S_next), (47, .det S_outlet), (48, .det S_product)] 0 (.cons (next_ok hP) (.cons (outlet_ok hP) (.cons (tproduct_ok hP) .nil))) (hP ▸ Tryz.func24) rfl rfl rfl ?_
  rw [nf_trow, hw]
  have r1 := nextV_range (show (1 : Int) ≤ 20 by omega) n v a
  have r2 := nextV_range (show (1 : Int) ≤ 30 by omega) n v (a + 1 + 1 + 1 + 1)
  have r3 := nextV_range (show (1 : Int) ≤ 3 by omega) n v (a + 1 + 1 + 1 + 1 + 1)
  have r4 := nextV_range (show (1 : Int) ≤ 4 by omega) n v (a + 1 + 1 + 1)
  have b1 : (1 + nextV n v a 20) * (90 + nextV n v (a + 1 + 1 + 1 + 1) 30) ≤ 20 * 119 := Int.mul_le_mul (by omega) (by omega) (by omega) (by omega)
  have b2 : 1 * 90 ≤ (1 + nextV n v a 20) * (90 + nextV n v (a + 1 + 1 + 1 + 1) 30) := Int.mul_le_mul (by omega) (by omega) (by omega) (by omega)
  exact ⟨⟨rfl, rfl, rfl, ⟨by omega, by omega⟩, by omega, by omega⟩, by simp only [inR]; omega, ⟨rfl, rfl, rfl, by omega, by omega⟩, ⟨rfl, rfl, rfl, by omega, by omega⟩, ⟨rfl, rfl, rfl, ⟨by omega, by omega⟩, by omega, by omega⟩, by simp only [inR]; omega, ⟨rfl, rfl, rfl, ⟨by omega, by omega⟩, by omega, by omega⟩, by simp only [inR]; omega, by simp only [inR]; omega, ⟨rfl, rfl, rfl, ⟨by omega, by omega⟩, by omega, by omega⟩, by simp only [inR]; omega, ⟨trivial, trivial⟩, rfl, rfl⟩
end Go.Eng
/-
  DERIVED: THE SHELF's CONTRACTS AT THIS DUMP, IN PLAIN WORDS (tools/lay-plain.mjs out of 'TryzSortL.lean', which tools/lay-shelf.mjs wrote): THE SAME DECLARATIONS UNDER THE SAME NAMES: 'import', 'namespace', 'open', 'def', 'theorem' AND NOTHING ELSE: no command of the shelf's: FOR A HAND-IN. Each laying: the table of numbers ('.._ren') and one theorem, a field a fact of the dump's own or the kernel's comparison; each contract: ONE APPLICATION.
-/
namespace Go.Proofs
open Go.Shelf
def Tryz.sort52_ren : Go.Shelf.Ren := ⟨fun | 6 => 52 | 15 => 88 | 14 => 87 | 28 => 118 | 29 => 119 | 20 => 110 | 21 => 111 | 22 => 112 | 23 => 113 | 24 => 114 | 25 => 115 | 26 => 116 | 27 => 117 | 46 => 137 | 47 => 138 | 48 => 139 | 49 => 140 | 50 => 141 | 57 => 150 | n => n, fun | 22 => 22 | 24 => 39 | 25 => 88 | 3 => 3 | 39 => 120 | 0 => 0 | 53 => 143 | 55 => 91 | 4 => 4 | 46 => 137 | 45 => 136 | 50 => 115 | 5 => 5 | 9 => 9 | 66 => 155 | 70 => 159 | 76 => 169 | 77 => 170 | n => n, fun | n => n⟩
theorem Tryz.sort52 : Go.Proofs.SlLaysF0.n6 Tryz.prog Tryz.sort52_ren := {
  mixed := by kernel_rfl
  f6 := ⟨Tryz.f52.name, by decide, Tryz.func52.trans (congrArg some (by kernel_rfl))⟩
  f14 := ⟨Tryz.f87.name, by decide, Tryz.func87.trans (congrArg some (by kernel_rfl))⟩
  f15 := Tryz.func88.trans (congrArg some (by kernel_rfl))
  f20 := ⟨Tryz.f110.name, by decide, Tryz.func110.trans (congrArg some (by kernel_rfl))⟩
  f21 := ⟨Tryz.f111.name, by decide, Tryz.func111.trans (congrArg some (by kernel_rfl))⟩
  f22 := ⟨Tryz.f112.name, by decide, Tryz.func112.trans (congrArg some (by kernel_rfl))⟩
  f23 := ⟨Tryz.f113.name, by decide, Tryz.func113.trans (congrArg some (by kernel_rfl))⟩
  f24 := ⟨Tryz.f114.name, by decide, Tryz.func114.trans (congrArg some (by kernel_rfl))⟩
  f25 := ⟨Tryz.f115.name, by decide, Tryz.func115.trans (congrArg some (by kernel_rfl))⟩
  f26 := ⟨Tryz.f116.name, by decide, Tryz.func116.trans (congrArg some (by kernel_rfl))⟩
  f27 := ⟨Tryz.f117.name, by decide, Tryz.func117.trans (congrArg some (by kernel_rfl))⟩
  f28 := Tryz.func118.trans (congrArg some (by kernel_rfl))
  f29 := Tryz.func119.trans (congrArg some (by kernel_rfl))
  f46 := ⟨Tryz.f137.name, by decide, Tryz.func137.trans (congrArg some (by kernel_rfl))⟩
  f47 := Tryz.func138.trans (congrArg some (by kernel_rfl))
  f48 := Tryz.func139.trans (congrArg some (by kernel_rfl))
  f49 := ⟨Tryz.f140.name, by decide, Tryz.func140.trans (congrArg some (by kernel_rfl))⟩
  f50 := ⟨Tryz.f141.name, by decide, Tryz.func141.trans (congrArg some (by kernel_rfl))⟩
  f57 := ⟨Tryz.f150.name, by decide, Tryz.func150.trans (congrArg some (by kernel_rfl))⟩
  t0 := Tryz.underlying0
  a0 := Tryz.isAgg0
  z0 := Tryz.sizeOf0
  v0 := Tryz.zeroValue0
  t3 := Tryz.underlying3
  a3 := Tryz.isAgg3
  z3 := Tryz.sizeOf3
  v3 := Tryz.zeroValue3
  t4 := Tryz.underlying4
  a4 := Tryz.isAgg4
  z4 := Tryz.sizeOf4
  v4 := Tryz.zeroValue4
  t5 := Tryz.underlying5
  a5 := Tryz.isAgg5
  z5 := Tryz.sizeOf5
  v5 := Tryz.zeroValue5
  t9 := Tryz.underlying9
  a9 := Tryz.isAgg9
  z9 := Tryz.sizeOf9
  v9 := Tryz.zeroValue9
  t22 := Tryz.underlying22
  a22 := Tryz.isAgg22
  z22 := Tryz.sizeOf22
  v22 := Tryz.zeroValue22
  t25 := Tryz.underlying88
  a25 := Tryz.isAgg88
  z25 := Tryz.sizeOf88
  v25 := Tryz.zeroValue88
  t39 := Tryz.underlying120
  a39 := Tryz.isAgg120
  z39 := Tryz.sizeOf120
  v39 := Tryz.zeroValue120
  t45 := Tryz.underlying136
  a45 := Tryz.isAgg136
  z45 := Tryz.sizeOf136
  v45 := Tryz.zeroValue136
  t46 := Tryz.underlying137
  a46 := Tryz.isAgg137
  z46 := Tryz.sizeOf137
  v46 := Tryz.zeroValue137
  t50 := Tryz.underlying115
  a50 := Tryz.isAgg115
  z50 := Tryz.sizeOf115
  v50 := Tryz.zeroValue115
  t53 := Tryz.underlying143
  a53 := Tryz.isAgg143
  z53 := Tryz.sizeOf143
  v53 := Tryz.zeroValue143
  t55 := Tryz.underlying91
  a55 := Tryz.isAgg91
  z55 := Tryz.sizeOf91
  v55 := Tryz.zeroValue91
  t66 := Tryz.underlying155
  a66 := Tryz.isAgg155
  z66 := Tryz.sizeOf155
  v66 := Tryz.zeroValue155
  t70 := Tryz.underlying159
  a70 := Tryz.isAgg159
  z70 := Tryz.sizeOf159
  v70 := Tryz.zeroValue159
  t76 := Tryz.underlying169
  a76 := Tryz.isAgg169
  z76 := Tryz.sizeOf169
  v76 := Tryz.zeroValue169
  t77 := Tryz.underlying170
  a77 := Tryz.isAgg170
  z77 := Tryz.sizeOf170
  v77 := Tryz.zeroValue170 }
def Tryz.sort73_ren : Go.Shelf.Ren := ⟨fun | 6 => 73 | 15 => 88 | 14 => 101 | 28 => 118 | 29 => 119 | 20 => 128 | 21 => 129 | 22 => 130 | 23 => 131 | 24 => 132 | 25 => 133 | 26 => 134 | 27 => 135 | 46 => 147 | 47 => 138 | 48 => 139 | 49 => 148 | 50 => 149 | 57 => 163 | n => n, fun | 22 => 58 | 24 => 56 | 25 => 109 | 3 => 3 | 39 => 120 | 0 => 0 | 53 => 143 | 55 => 91 | 4 => 4 | 46 => 137 | 45 => 136 | 50 => 115 | 5 => 5 | 9 => 9 | 66 => 155 | 70 => 159 | 76 => 169 | 77 => 170 | n => n, fun | n => n⟩
theorem Tryz.sort73 : Go.Proofs.SlLaysF0.n6 Tryz.prog Tryz.sort73_ren := {
  mixed := by kernel_rfl
  f6 := ⟨Tryz.f73.name, by decide, Tryz.func73.trans (congrArg some (by kernel_rfl))⟩
  f14 := ⟨Tryz.f101.name, by decide, Tryz.func101.trans (congrArg some (by kernel_rfl))⟩
  f15 := Tryz.func88.trans (congrArg some (by kernel_rfl))
  f20 := ⟨Tryz.f128.name, by decide, Tryz.func128.trans (congrArg some (by kernel_rfl))⟩
  f21 := ⟨Tryz.f129.name, by decide, Tryz.func129.trans (congrArg some (by kernel_rfl))⟩
  f22 := ⟨Tryz.f130.name, by decide, Tryz.func130.trans (congrArg some (by kernel_rfl))⟩
  f23 := ⟨Tryz.f131.name, by decide, Tryz.func131.trans (congrArg some (by kernel_rfl))⟩
  f24 := ⟨Tryz.f132.name, by decide, Tryz.func132.trans (congrArg some (by kernel_rfl))⟩
  f25 := ⟨Tryz.f133.name, by decide, Tryz.func133.trans (congrArg some (by kernel_rfl))⟩
  f26 := ⟨Tryz.f134.name, by decide, Tryz.func134.trans (congrArg some (by kernel_rfl))⟩
  f27 := ⟨Tryz.f135.name, by decide, Tryz.func135.trans (congrArg some (by kernel_rfl))⟩
  f28 := Tryz.func118.trans (congrArg some (by kernel_rfl))
  f29 := Tryz.func119.trans (congrArg some (by kernel_rfl))
  f46 := ⟨Tryz.f147.name, by decide, Tryz.func147.trans (congrArg some (by kernel_rfl))⟩
  f47 := Tryz.func138.trans (congrArg some (by kernel_rfl))
  f48 := Tryz.func139.trans (congrArg some (by kernel_rfl))
  f49 := ⟨Tryz.f148.name, by decide, Tryz.func148.trans (congrArg some (by kernel_rfl))⟩
  f50 := ⟨Tryz.f149.name, by decide, Tryz.func149.trans (congrArg some (by kernel_rfl))⟩
  f57 := ⟨Tryz.f163.name, by decide, Tryz.func163.trans (congrArg some (by kernel_rfl))⟩
  t0 := Tryz.underlying0
  a0 := Tryz.isAgg0
  z0 := Tryz.sizeOf0
  v0 := Tryz.zeroValue0
  t3 := Tryz.underlying3
  a3 := Tryz.isAgg3
  z3 := Tryz.sizeOf3
  v3 := Tryz.zeroValue3
  t4 := Tryz.underlying4
  a4 := Tryz.isAgg4
  z4 := Tryz.sizeOf4
  v4 := Tryz.zeroValue4
  t5 := Tryz.underlying5
  a5 := Tryz.isAgg5
  z5 := Tryz.sizeOf5
  v5 := Tryz.zeroValue5
  t9 := Tryz.underlying9
  a9 := Tryz.isAgg9
  z9 := Tryz.sizeOf9
  v9 := Tryz.zeroValue9
  t22 := Tryz.underlying58
  a22 := Tryz.isAgg58
  z22 := Tryz.sizeOf58
  v22 := Tryz.zeroValue58
  t25 := Tryz.underlying109
  a25 := Tryz.isAgg109
  z25 := Tryz.sizeOf109
  v25 := Tryz.zeroValue109
  t39 := Tryz.underlying120
  a39 := Tryz.isAgg120
  z39 := Tryz.sizeOf120
  v39 := Tryz.zeroValue120
  t45 := Tryz.underlying136
  a45 := Tryz.isAgg136
  z45 := Tryz.sizeOf136
  v45 := Tryz.zeroValue136
  t46 := Tryz.underlying137
  a46 := Tryz.isAgg137
  z46 := Tryz.sizeOf137
  v46 := Tryz.zeroValue137
  t50 := Tryz.underlying115
  a50 := Tryz.isAgg115
  z50 := Tryz.sizeOf115
  v50 := Tryz.zeroValue115
  t53 := Tryz.underlying143
  a53 := Tryz.isAgg143
  z53 := Tryz.sizeOf143
  v53 := Tryz.zeroValue143
  t55 := Tryz.underlying91
  a55 := Tryz.isAgg91
  z55 := Tryz.sizeOf91
  v55 := Tryz.zeroValue91
  t66 := Tryz.underlying155
  a66 := Tryz.isAgg155
  z66 := Tryz.sizeOf155
  v66 := Tryz.zeroValue155
  t70 := Tryz.underlying159
  a70 := Tryz.isAgg159
  z70 := Tryz.sizeOf159
  v70 := Tryz.zeroValue159
  t76 := Tryz.underlying169
  a76 := Tryz.isAgg169
  z76 := Tryz.sizeOf169
  v76 := Tryz.zeroValue169
  t77 := Tryz.underlying170
  a77 := Tryz.isAgg170
  z77 := Tryz.sizeOf170
  v77 := Tryz.zeroValue170 }
end Go.Proofs
/- The engine, part 36: sorting by the library's contract. -/
namespace Go.Eng
open Go.Proofs Go.RowKit Go.Sort

def valA : AV → Value
  | .str l => .string ⟨l.toArray⟩
  | .int k n => .int k n
  | .bool b => .bool b
  | _ => default
def plainA : AV → Bool
  | .str _ => true
  | .int _ _ => true
  | .bool _ => true
  | _ => false
theorem V_plain {w : World} {M : Nat → Prop} {bs : Nat → Option Hd} {v : Value} {u : AV} (hp : plainA u = true) (h : V w M bs v u) : v = valA u := by
  cases u <;> simp only [plainA, Bool.false_eq_true] at hp
  · cases h; rfl
  · cases h; rfl
  · exact h.str_iff
theorem plain_V {w : World} {M : Nat → Prop} {bs : Nat → Option Hd} {u : AV} (hp : plainA u = true) : V w M bs (valA u) u := by
  cases u <;> simp only [plainA, Bool.false_eq_true] at hp
  · exact .bool
  · exact .int
  · exact .str rfl
theorem plain_one {u : AV} (hp : plainA u = true) : (valA u).oneCell' = true := by
  cases u <;> simp only [plainA, Bool.false_eq_true] at hp <;> rfl

/-- The program alone; the orders drawn are counted. -/
def Ctx.bare (P : Program) (h : P.follows .mixedOrders = true) : Ctx := ⟨P, 0, fun _ => True, h, fun _ _ _ h => h, true⟩

theorem grow_of {w w' : World} (h1 : w'.os = w.os) (h2 : w'.tape = w.tape) (h3 : w'.output = w.output) (h4 : w.heap.size ≤ w'.heap.size) (h5 : ∀ b, b < w.heap.size → w'.heap[b]? = w.heap[b]?) (h6 : w.drawn ≤ w'.drawn) :
    ∃ q os, w' = grow (w.drewN q) os := by
  refine ⟨w'.drawn - w.drawn, w'.heap.extract w.heap.size w'.heap.size, ?_⟩
  obtain ⟨hp, tp, dr, os, out⟩ := w
  obtain ⟨hp', tp', dr', os', out'⟩ := w'
  simp only at h1 h2 h3 h4 h5 h6
  subst h1; subst h2; subst h3
  simp only [grow, World.drewN, World.mk.injEq, and_true, true_and]
  refine ⟨?_, by omega⟩
  apply Array.ext_getElem?
  intro i
  rw [Array.getElem?_append]
  by_cases h : i < hp.size
  · rw [if_pos h, h5 i h]
  · rw [if_neg h, Array.getElem?_extract]
    by_cases h' : i < hp'.size
    · rw [if_pos (by omega)]; congr 1; omega
    · rw [if_neg (by omega), Array.getElem?_eq_none (by omega)]

/-- A call with no objects that answers plain data: the world only grows. -/
theorem ADet.grown {P : Program} {hm : P.follows .mixedOrders = true} {f : FuncId} {args : List AV} {u : AV} (h : ADet (Ctx.bare P hm) f args [] u []) (hu : plainA u = true) {w : World} {cargs : List Value} (hlen : cargs.length = args.length)
    (hV : ∀ (j : Nat) v x, cargs[j]? = some v → args[j]? = some x → V w (fun _ => False) nob v x) : Calls P f cargs.toArray w fun e w' => e = .returned (valA u) ∧ ∃ q os, w' = grow (w.drewN q) os := by
  have no : ∀ r, lkL [] r = none := fun r => by cases r <;> rfl
  have nm : ∀ b', ¬ mutB (lkL []) nob b' := by
    rintro b' ⟨r, o, c, ho, _⟩
    rw [no r] at ho; cases ho
  have hw : WRep (Ctx.bare P hm) ⟨w, 0, nob, fun _ => False, fun _ => False⟩ (lkL []) nob w := {
    obj := fun r o ho => by rw [no r] at ho; cases ho
    sep := fun r r' o o' b c c' ho => by rw [no r] at ho; cases ho
    out := fun b hb => absurd hb (nm b)
    frz := fun r t sz n f b c ho => by rw [no r] at ho; cases ho
    high := fun b hb => Nat.zero_le _
    lt := fun r b c hb => by simp [nob] at hb
    outlt := fun b hb => hb.elim
    keep := fun b _ _ => rfl
    old := fun b hb => absurd hb (nm b)
    size := Nat.le_refl _
    pre := fun r x hr => absurd hr (Nat.not_lt_zero r)
    os := rfl
    tape := .refl _ _
    output := rfl
    laid := trivial
    gle := Nat.zero_le _ }
  refine (h.2 ⟨w, 0, nob, fun _ => False, fun _ => False⟩ nob w cargs rfl rfl rfl hw (fun _ _ => rfl) hlen (fun j v u hv hu => (hV j v u hv hu).step_ (fun b _ _ hb => ?_) (fun _ _ _ => rfl) (Nat.le_refl _) nob (fun _ _ h => h))).mono ?_
  · rcases hb with hb | hb
    · exact hb
    · exact nm b hb
  · rintro e w' ⟨v, u', O', bs', rfl, ⟨rfl, rfl⟩, hw', hV', _⟩
    rw [V_plain hu hV']
    exact ⟨rfl, grow_of hw'.os hw'.tape.tape hw'.output hw'.size (fun i hi => hw'.keep i hi (fun h => h)) (hw'.tape.drawn rfl)⟩

section
variable {α : Type} [Inhabited α]
def encV (enc : α → List AV) (x : α) : List Value := (enc x).map valA

theorem arr_get (n : Nat) (f : Nat → α) {i : Nat} (hi : i < n) : (((List.range n).map f).toArray)[i]! = f i := by simp [hi]

/-- The library's sort, at a row of our own of plain data. -/
theorem ACalls.sortK {C : Ctx} (enc : α → List AV) (k : Nat) (hk : ∀ x, (enc x).length = k) (hp : ∀ x u, u ∈ enc x → plainA u = true) (cf : α → α → Int) {fS g : FuncId} {t : TypeId} (heS : Enters C.P fS)
    (hS : ∀ (blk cap : Nat) (d : Array α) (w : World), CmpLays C.P g #[] (encV enc) k cf blk 0 d.size w → HoldsK (encV enc) k w blk 0 d → blk < w.heap.size → d.size < 4611686018427387904 →
      Calls C.P fS #[.slice (some ⟨blk, 0, none⟩) d.size cap, .func (.func g) #[] #[]] w fun e w' => e = .returned (.tuple #[]) ∧ ∃ d' n os, PermIn 0 d.size d d' ∧ SortedIn (ltOf cf) 0 d.size d' ∧ w' = sortWorldK (encV enc) k w blk 0 n d' os)
    (hN : ∀ (p : Option Addr) (cap : Nat) (fv : Value) (w : World), Calls C.P fS #[.slice p 0 cap, fv] w fun e w' => e = .returned (.tuple #[]) ∧ w' = w)
    (hc : ∀ x y, ADet (Ctx.bare C.P C.mixed) g [.agg (enc x), .agg (enc y)] [] (.int .i64 (cf x y)) [])
    {n : Nat} (f : Nat → α) (hn : n < 4611686018427387904) :
    ACalls C fS [.own 0 n, .func g []] [.row t k n (fun i => enc (f i)) false] fun u O => u = .tuple [] ∧ ∃ f' : Nat → α, ((List.range n).map f').Perm ((List.range n).map f) ∧ (∀ i j, i < j → j < n → ¬ cf (f' j) (f' i) < 0) ∧
      O = [(0, .row t k n (fun i => enc (f' i)) false)] := by
  refine ⟨heS, fun E bs w cargs h1 h2 h3 hW h5 h6 h7 => ?_⟩
  obtain ⟨a, b, rfl⟩ : ∃ a b, cargs = [a, b] := by
    match cargs, h6 with
    | [a, b], _ => exact ⟨a, b, rfl⟩
  have V0 := h7 0 _ _ rfl rfl
  have V1 := h7 1 _ _ rfl rfl
  generalize hu : AV.func g [] = uf at V1
  cases V1 <;> cases hu
  rename_i caps hl hv
  obtain rfl : caps = #[] := Array.eq_empty_of_size_eq_zero hl
  have hO : lkL [AObj.row t k n (fun i => enc (f i)) false] = lk [(0, .row t k n (fun i => enc (f i)) false)] := by
    funext i
    cases i with
    | zero => rfl
    | succ i => rw [lk_cons, if_neg (by show ¬ 0 = i + 1; omega)]; simp [lkL, lk]
  have hbs : ∀ r, 1 + 16 ≤ r → lk [(0, AObj.row t k n (fun i => enc (f i)) false)] r = none ∧ bs r = none := fun r hr => ⟨by rw [lk_cons, if_neg (by show ¬ 0 = r; omega)]; rfl, h5 r (by show 1 ≤ r; omega)⟩
  rw [hO] at hW V0
  generalize huo : AV.own 0 n = uo at V0
  cases V0 <;> cases huo
  case func.refl.ownnil.refl A x1 x2 =>
    have hn0 : n = 0 := by assumption
    clear x1 x2
    subst hn0
    refine (hN A 0 _ w).mono ?_
    rintro e w' ⟨rfl, rfl⟩
    refine ⟨_, .tuple [], [(0, .row t k 0 (fun i => enc (f i)) false)], bs, rfl, ⟨rfl, f, .refl _, fun i j _ hj => absurd hj (Nat.not_lt_zero j), rfl⟩, hW, .tuple rfl (fun j v u hv hu => by simp at hu), hbs⟩
  case func.refl.own.refl bk c x1 x2 x3 =>
    have hb : bs 0 = some (.blk bk c) := by assumption
    clear x1 x2 x3
    have hrow := hW.obj 0 _ rfl
    rcases hrow with ⟨h, _⟩ | ⟨bk', c', vs, hb', hh, hnc', hcm', hsz, hln, hone, hval⟩
    · rw [h] at hb; cases hb
    obtain ⟨rfl, rfl⟩ : bk' = bk ∧ c' = c := by
      rw [hb'] at hb; injection hb with hb; injection hb with e1 e2; exact ⟨e1, e2⟩
    have hblk : bk' < w.heap.size := hW.lt _ _ _ hb'
    have hle : n * k ≤ vs.size := by rw [hsz]; exact Nat.mul_le_mul_right k hnc'
    have hdiv : ∀ q, q < n * k → q / k < n ∧ q % k < k ∧ q / k * k + q % k = q := fun q hq => by
      have k0 : 0 < k := by
        rcases Nat.eq_zero_or_pos k with h | h
        · subst h; simp at hq
        · exact h
      exact ⟨Nat.div_lt_of_lt_mul (by rwa [Nat.mul_comm]), Nat.mod_lt _ k0, Nat.div_add_mod' q k⟩
    have hds : (((List.range n).map f).toArray).size = n := by simp
    have hlen : ∀ x, (encV enc x).length = k := fun x => by simp [encV, hk]
    have hH : HoldsK (encV enc) k w bk' 0 ((List.range n).map f).toArray := by
      intro q hq
      rw [size_flatK, hds] at hq
      obtain ⟨q1, q2, q3⟩ := hdiv q hq
      rw [get_flatK _ _ _ _ (by rw [hds]; exact hq), arr_get n f q1, Nat.zero_add]
      have hlt : q < vs.size := by omega
      refine ⟨?_, ?_⟩
      · rw [cell_of_row w bk' q vs t (0, 0) hh]
        have hg : vs[q / k * k + q % k]? = some vs[q] := by rw [q3]; exact Array.getElem?_eq_getElem hlt
        have hu : (enc (f (q / k)))[q % k]? = some ((enc (f (q / k)))[q % k]'(by rw [hk]; exact q2)) := List.getElem?_eq_getElem _
        have := V_plain (hp _ _ (List.mem_of_getElem? hu)) (hval (q / k) q1 (q % k) _ _ q2 hg hu)
        show vs[q]? = some (((enc (f (q / k))).map valA)[q % k]!)
        rw [Array.getElem?_eq_getElem hlt, this]
        congr 1
        simp [hk, q2]
      · simp [World.frozen?, hh]
    have hC : CmpLays C.P g #[] (encV enc) k cf bk' 0 ((List.range n).map f).toArray.size w := by
      intro m os dk _ x y
      have := ADet.grown (hc x y) rfl (w := sortWorldK (encV enc) k w bk' 0 m dk os) (cargs := [.agg (encV enc x).toArray, .agg (encV enc y).toArray]) rfl (fun j v u hv hu => ?_)
      · simpa [valA] using this
      have ag : ∀ z : α, V (sortWorldK (encV enc) k w bk' 0 m dk os) (fun _ => False) nob (.agg (encV enc z).toArray) (.agg (enc z)) := fun z => by
        refine .agg (by simp [encV]) (fun j v hv => ?_) (fun j v u hv hu => ?_)
        · simp only [List.getElem?_toArray, encV, List.getElem?_map, Option.map_eq_some_iff] at hv
          obtain ⟨u, hu, rfl⟩ := hv
          exact plain_one (hp _ _ (List.mem_of_getElem? hu))
        · simp only [List.getElem?_toArray, encV, List.getElem?_map, hu, Option.map_some, Option.some.injEq] at hv
          subst hv
          exact plain_V (hp _ _ (List.mem_of_getElem? hu))
      match j with
      | 0 => obtain rfl := Option.some.inj hv; obtain rfl := Option.some.inj hu; exact ag x
      | 1 => obtain rfl := Option.some.inj hv; obtain rfl := Option.some.inj hu; exact ag y
      | j + 2 => simp at hv
    have hcall := hS bk' c' ((List.range n).map f).toArray w hC hH hblk (by rw [hds]; exact hn)
    rw [hds] at hcall
    refine hcall.mono ?_
    rintro e w' ⟨rfl, d', m, os, hperm, hsort, rfl⟩
    have hd' : d'.size = n := hperm.1.trans hds
    have hlist : d'.toList = (List.range n).map (fun i => d'[i]!) := by
      apply List.ext_getElem?
      intro i
      rw [List.getElem?_map, Array.getElem?_toList]
      by_cases hi : i < n
      · rw [List.getElem?_range hi, Option.map_some, getElem!_pos d' i (by omega), Array.getElem?_eq_getElem (by omega)]
      · rw [Array.getElem?_eq_none (by omega), List.getElem?_eq_none (by simp; omega)]; rfl
    have hnb : ∀ (o' : AObj), lk [(0, o')] = up (lk [(0, AObj.row t k n (fun i => enc (f i)) false)]) 0 o' := fun o' => by
      funext i
      rw [lk_cons]
      by_cases h : (0 : Nat) = i
      · rw [if_pos h, ← h, up_same]
      · rw [if_neg h, up_other _ _ _ h, lk_cons, if_neg h]
    have hheap : ∀ b, b < w.heap.size → b ≠ bk' → (sortWorldK (encV enc) k w bk' 0 m d' os).heap[b]? = w.heap[b]? := fun b hb hne => by
      show ((putRowK (encV enc) k (Sort.ahead w m) bk' 0 d').heap ++ os)[b]? = _
      rw [Array.getElem?_append_left (by show b < (putRowK _ _ _ _ _ _).heap.size; rw [show (putRowK (encV enc) k (Sort.ahead w m) bk' 0 d').heap.size = w.heap.size from by simp [putRowK]]; exact hb)]
      simp [putRowK, putRow, mapBlock, Array.getElem?_modify, Ne.symm hne]
    have hsize : w.heap.size ≤ (sortWorldK (encV enc) k w bk' 0 m d' os).heap.size := by simp [sortWorldK, grow, putRowK]
    have hnew : (sortWorldK (encV enc) k w bk' 0 m d' os).heap[bk']? = some (.cells (putCells id 0 (flatK (encV enc) k d') vs) t (0, 0)) := by
      show ((putRowK (encV enc) k (Sort.ahead w m) bk' 0 d').heap ++ os)[bk']? = _
      rw [Array.getElem?_append_left (by rw [show (putRowK (encV enc) k (Sort.ahead w m) bk' 0 d').heap.size = w.heap.size from by simp [putRowK]]; exact hblk)]
      simp [putRowK, putRow, mapBlock, Array.getElem?_modify, hh, onCells]
    have hcell : ∀ i, i < n → ∀ j, j < k → ∀ v, (putCells id 0 (flatK (encV enc) k d') vs)[i * k + j]? = some v → ∃ u, (enc d'[i]!)[j]? = some u ∧ v = valA u := fun i hi j hj v hv => by
      have hlt : i * k + j < n * k := by
        have := Nat.mul_le_mul_right k (show i + 1 ≤ n from hi)
        rw [Nat.add_mul, Nat.one_mul] at this; omega
      have hlt2 : i * k + j < vs.size := by omega
      simp only [putCells, Array.getElem?_mapIdx, Array.getElem?_eq_getElem hlt2, Option.map_some, size_flatK, hd', Nat.zero_le, Nat.zero_add, hlt, and_self, if_true, Nat.sub_zero, Option.some.injEq, id] at hv
      rw [get_flatK _ _ _ _ (by rw [hd']; exact hlt)] at hv
      have e1 : (i * k + j) / k = i := (blk_iff k i _ (by omega)).1 ⟨by omega, by omega⟩
      have e2 : (i * k + j) % k = j := by rw [Nat.mod_eq_sub_div_mul, e1]; omega
      rw [e1, e2] at hv
      refine ⟨(enc d'[i]!)[j]'(by rw [hk]; exact hj), List.getElem?_eq_getElem _, ?_⟩
      rw [← hv]
      simp [encV, hk, hj]
    refine ⟨_, .tuple [], [(0, .row t k n (fun i => enc d'[i]!) false)], bs, rfl, ⟨rfl, fun i => d'[i]!, ?_, fun i j hij hj => ?_, rfl⟩, ?_, .tuple rfl (fun j v u hv hu => by simp at hu), fun r hr => ⟨by rw [lk_cons, if_neg (by show ¬ 0 = r; exact fun h => by subst h; simp at hr)]; rfl, (hbs r hr).2⟩⟩
    · have := hperm.2.2
      have e1 : d'.extract 0 n = d' := by rw [← hd']; exact Array.extract_size
      have e2 : ((List.range n).map f).toArray.extract 0 n = ((List.range n).map f).toArray := by
        have := Array.extract_size (xs := ((List.range n).map f).toArray)
        rwa [hds] at this
      rw [e1, e2] at this
      rw [← hlist]; simpa using this
    · have := hsort i j (Nat.zero_le _) hij hj
      simpa [ltOf] using this
    · have hmb : ∀ b, mutB (lk [(0, AObj.row t k n (fun i => enc d'[i]!) false)]) bs b → mutB (lk [(0, AObj.row t k n (fun i => enc (f i)) false)]) bs b := by
        rintro b ⟨r, o, c2, ho, hm, hb2⟩
        rw [lk_cons] at ho
        by_cases h : (0 : Nat) = r
        · subst h; exact ⟨0, _, c2, rfl, rfl, hb2⟩
        · rw [if_neg h] at ho; cases ho
      refine (hW.next (w' := sortWorldK (encV enc) k w bk' 0 m d' os) (fun b => b = bk') (fun i h hi => hi) (fun i b c' hi => .inl hi) (fun b hb2 => by subst hb2; exact ⟨0, _, c', rfl, rfl, hb'⟩) (fun b hb2 hne => hheap b hb2 hne) hsize (fun b hb2 => .inl (hmb b hb2)) (fun hSt i o' ho => ?_)
        (fun i j o1 o2 b c1 c2 hi hj m1 m2 bi bj => ?_) (fun i t' sz' n' f' b c2 ho hb2 => ?_) rfl ⟨rfl, fun _ => Nat.le_add_right _ _⟩ rfl).2
      · rw [lk_cons] at ho
        by_cases h : (0 : Nat) = i
        · subst h
          rw [if_pos rfl] at ho
          injection ho with ho; subst ho
          refine .inr (.inr ⟨bk', c', _, hb', hnew, hnc', hcm', by simp [putCells, hsz], fun i hi => hk _, fun i hi j hj v hv => ?_, fun i hi j v u hj hv hu => ?_⟩)
          · obtain ⟨u, hu, rfl⟩ := hcell i hi j hj v hv
            exact plain_one (hp _ _ (List.mem_of_getElem? hu))
          · obtain ⟨u', hu', rfl⟩ := hcell i hi j hj v hv
            have hu : (enc d'[i]!)[j]? = some u := hu
            rw [hu'] at hu
            injection hu with hu; subst hu
            exact plain_V (hp _ _ (List.mem_of_getElem? hu'))
        · rw [if_neg h] at ho; cases ho
      · rw [lk_cons] at hi hj
        by_cases h : (0 : Nat) = i
        · by_cases h' : (0 : Nat) = j
          · rw [← h, ← h']
          · rw [if_neg h'] at hj; cases hj
        · rw [if_neg h] at hi; cases hi
      · rw [lk_cons] at ho
        by_cases h : (0 : Nat) = i
        · rw [if_pos h] at ho; cases ho
        · rw [if_neg h] at ho; cases ho
end
end Go.Eng
