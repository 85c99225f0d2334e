/- Lemmas that the tied card of CollectionUnion is proved by. -/
import Derived.Test.YtokpcnppihgdlaaGreatDoorNn
import Derived.Test.YtokpcnppihgdlaaGreatDoorNs
import Derived.Test.YtokpcnppihgdlaaGreatDoorNp
import Derived.Test.YtokpcnppihgdlaaGreatDoorNt
/- The reference of the products. -/
namespace Go.Eng
open Go.Proofs Go.RowKit
set_option maxRecDepth 20000
theorem nf_cdR (s : List UInt8) (R : AV → List (Nat × AObj) → Prop) : wpFn te [] [(5, L_checkDigitR s)] 0 Tryz.f85 [.str s] [] R = (condP (!decide ((↑(List.length s) : Int) = (7 : Int))) (condP (!decide ((↑(List.length s) : Int) = (12 : Int))) (R (.tuple [.int .i64 0, .bool false]) []) (some (St.mk [(0, .str s), (4, .int .i64 0), (16, .int .i64 (↑(List.length s) : Int)), (17, .int .i64 0)] [] 0 []) = some (St.mk [(0, .str s), (4, .int .i64 (cdSum s 0)), (16, .int .i64 (↑(List.length s) : Int)), (17, .int .i64 (↑0 : Int))] [] 0 []) ∧ List.length s ≤ 12 ∧ condP (List.all s isDig) ((10 : Int) ≠ (0 : Int) ∧ inR .i64 ((10 : Int) - Int.tmod (cdSum s (List.length s)) (10 : Int)) ∧ (10 : Int) ≠ (0 : Int) ∧ R (.tuple [.int .i64 (Int.tmod ((10 : Int) - Int.tmod (cdSum s (List.length s)) (10 : Int)) (10 : Int)), .bool true]) []) (R (.tuple [.int .i64 0, .bool false]) []))) (some (St.mk [(0, .str s), (4, .int .i64 0), (16, .int .i64 (↑(List.length s) : Int)), (17, .int .i64 0)] [] 0 []) = some (St.mk [(0, .str s), (4, .int .i64 (cdSum s 0)), (16, .int .i64 (↑(List.length s) : Int)), (17, .int .i64 (↑0 : Int))] [] 0 []) ∧ List.length s ≤ 12 ∧ condP (List.all s isDig) ((10 : Int) ≠ (0 : Int) ∧ inR .i64 ((10 : Int) - Int.tmod (cdSum s (List.length s)) (10 : Int)) ∧ (10 : Int) ≠ (0 : Int) ∧ R (.tuple [.int .i64 (Int.tmod ((10 : Int) - Int.tmod (cdSum s (List.length s)) (10 : Int)) (10 : Int)), .bool true]) []) (R (.tuple [.int .i64 0, .bool false]) []))) := by kernel_rfl
theorem nf_cdR_round (s : List UInt8) (k : Nat) (P : Nat → Prop) (R : Exit → St → Prop) : roundP ⟨te, [], [], 0, 50, 0⟩ (loopB Tryz.f85 5) [0, 4, 16, 17] [4] [2, 3] (S_cdrState s) P R (S_cdrState s k) = (condP (decide ((↑k : Int) < (↑(List.length s) : Int))) (((0 : Int) ≤ (↑k : Int) ∧ (↑k : Int) < (↑(List.length s) : Int)) ∧ condP (decide ((↑(UInt8.toNat (List.getD s (Int.toNat (↑k : Int)) (0 : UInt8))) : Int) < (48 : Int))) (R .ret (St.mk [(2, .int .i64 0), (3, .bool false)] [] 0 [])) (((0 : Int) ≤ (↑k : Int) ∧ (↑k : Int) < (↑(List.length s) : Int)) ∧ condP (decide ((57 : Int) < (↑(UInt8.toNat (List.getD s (Int.toNat (↑k : Int)) (0 : UInt8))) : Int))) (R .ret (St.mk [(2, .int .i64 0), (3, .bool false)] [] 0 [])) (inR .i64 ((↑(List.length s) : Int) - (↑k : Int)) ∧ (2 : Int) ≠ (0 : Int) ∧ condP (decide (Int.tmod ((↑(List.length s) : Int) - (↑k : Int)) (2 : Int) = (1 : Int))) (((0 : Int) ≤ (↑k : Int) ∧ (↑k : Int) < (↑(List.length s) : Int)) ∧ inR .i64 (((↑(UInt8.toNat (List.getD s (Int.toNat (↑k : Int)) (0 : UInt8))) : Int) - (48 : Int)) % (256 : Int)) ∧ inR .i64 ((3 : Int) * (((↑(UInt8.toNat (List.getD s (Int.toNat (↑k : Int)) (0 : UInt8))) : Int) - (48 : Int)) % (256 : Int))) ∧ inR .i64 (cdSum s k + (3 : Int) * (((↑(UInt8.toNat (List.getD s (Int.toNat (↑k : Int)) (0 : UInt8))) : Int) - (48 : Int)) % (256 : Int))) ∧ inR .i64 ((↑k : Int) + (1 : Int)) ∧ ∃ (i' : Nat), some (St.mk [(0, .str s), (4, .int .i64 (cdSum s k + (3 : Int) * (((↑(UInt8.toNat (List.getD s (Int.toNat (↑k : Int)) (0 : UInt8))) : Int) - (48 : Int)) % (256 : Int)))), (16, .int .i64 (↑(List.length s) : Int)), (17, .int .i64 ((↑k : Int) + (1 : Int)))] [] 0 []) = some (St.mk [(0, .str s), (4, .int .i64 (cdSum s i')), (16, .int .i64 (↑(List.length s) : Int)), (17, .int .i64 (↑i' : Int))] [] 0 []) ∧ P i') (((0 : Int) ≤ (↑k : Int) ∧ (↑k : Int) < (↑(List.length s) : Int)) ∧ inR .i64 (((↑(UInt8.toNat (List.getD s (Int.toNat (↑k : Int)) (0 : UInt8))) : Int) - (48 : Int)) % (256 : Int)) ∧ inR .i64 ((1 : Int) * (((↑(UInt8.toNat (List.getD s (Int.toNat (↑k : Int)) (0 : UInt8))) : Int) - (48 : Int)) % (256 : Int))) ∧ inR .i64 (cdSum s k + (1 : Int) * (((↑(UInt8.toNat (List.getD s (Int.toNat (↑k : Int)) (0 : UInt8))) : Int) - (48 : Int)) % (256 : Int))) ∧ inR .i64 ((↑k : Int) + (1 : Int)) ∧ ∃ (i' : Nat), some (St.mk [(0, .str s), (4, .int .i64 (cdSum s k + (1 : Int) * (((↑(UInt8.toNat (List.getD s (Int.toNat (↑k : Int)) (0 : UInt8))) : Int) - (48 : Int)) % (256 : Int)))), (16, .int .i64 (↑(List.length s) : Int)), (17, .int .i64 ((↑k : Int) + (1 : Int)))] [] 0 []) = some (St.mk [(0, .str s), (4, .int .i64 (cdSum s i')), (16, .int .i64 (↑(List.length s) : Int)), (17, .int .i64 (↑i' : Int))] [] 0 []) ∧ P i')))) (R (.exit 0) (St.mk [(4, .int .i64 (cdSum s k))] [] 0 []))) := by kernel_rfl
variable {C : Ctx} [C.Loose]

theorem cdR_loop (hP : C.P = Tryz.prog) (s : List UInt8) : LoopOK C 0 50 (loopC Tryz.f85 5) (L_checkDigitR s) := by
  have _ : C.Loose := inferInstance
  rintro st Q ⟨h0, hlen, hQ⟩
  have hQ := condP_elim hQ
  refine LoopOK.mk (prg hP) [] 0 .nil [0, 4, 16, 17] [4] [2, 3] (S_cdrState s) (fun k => k ≤ s.length ∧ ∀ j, j < k → 48 ≤ (s.getD j 0).toNat ∧ (s.getD j 0).toNat ≤ 57) (fun k => s.length - k) 0 ⟨Nat.zero_le _, fun j h => by omega⟩ h0 fun k ⟨hk, hall⟩ => ?_
  rw [nf_cdR_round]
  have hb := cdSum_boundk k hk hall
  refine condP_dec (fun h => ?_) (fun h => ?_)
  · have hlt : k < s.length := by omega
    have hret : ¬ (48 ≤ (s.getD k 0).toNat ∧ (s.getD k 0).toNat ≤ 57) → Q .ret ⟨[(2, .int .i64 0), (3, .bool false)], [], 0, []⟩ := fun hno => hQ.2 (by
      cases ha : s.all isDig with
      | false => rfl
      | true => exact absurd (isDig_at ha k hlt) hno)
    have e : Int.tmod (↑s.length - ↑k) 2 = (↑s.length - ↑k) % 2 := Int.tmod_eq_emod_of_nonneg (by omega)
    have hs : cdSum s (k + 1) = cdSum s k + (1 + 2 * ((↑s.length - ↑k) % 2)) * (↑(s.getD k 0).toNat - 48) := rfl
    have hgo : (48 ≤ (s.getD k 0).toNat ∧ (s.getD k 0).toNat ≤ 57) → (k + 1 ≤ s.length ∧ ∀ j, j < k + 1 → 48 ≤ (s.getD j 0).toNat ∧ (s.getD j 0).toNat ≤ 57) ∧ s.length - (k + 1) < s.length - k := fun hok =>
      ⟨⟨by omega, fun j hj => by
        rcases Nat.lt_succ_iff_lt_or_eq.1 hj with hj | rfl
        · exact hall j hj
        · exact hok⟩, by omega⟩
    simp only [Int.toNat_natCast, inR, e]
    refine ⟨by omega, condP_dec (fun h1 => hret (by omega)) (fun h1 => ⟨by omega, condP_dec (fun h2 => hret (by omega)) (fun h2 => ⟨by omega, by omega, ?_⟩)⟩)⟩
    have hgo := hgo (by omega)
    have e3 : ((s.getD k 0).toNat - 48 : Int) % 256 = (s.getD k 0).toNat - 48 := by omega
    rw [e3]
    refine condP_dec (fun h3 => ?_) (fun h3 => ?_)
    · rw [h3] at hs
      exact ⟨by omega, by omega, by omega, by omega, by omega, k + 1, by rw [hs]; rfl, hgo⟩
    · have h3 : (↑s.length - ↑k : Int) % 2 = 0 := by omega
      rw [h3] at hs
      exact ⟨by omega, by omega, by omega, by omega, by omega, k + 1, by rw [hs]; rfl, hgo⟩
  · have hks : k = s.length := by omega
    rw [hks]
    exact hQ.1 (all_isDig fun j hj => hall j (by omega))

theorem cdR_ok (hP : C.P = Tryz.prog) : SpecOK C 85 S_checkDigit := by
  rintro args objs U Os vc h hvc
  unfold S_checkDigit at h
  split at h <;> simp only [Option.some.injEq, Prod.mk.injEq, reduceCtorEq] at h
  rename_i s
  obtain ⟨rfl, rfl, rfl⟩ := h
  refine SpecOK.wpL (prg hP) [] [(5, L_checkDigitR s)] 0 .nil (hP ▸ Tryz.func85) rfl rfl rfl [(loopC Tryz.f85 5, L_checkDigitR s)] (by kernel_rfl) ⟨cdR_loop hP s, trivial⟩ ?_
  rw [nf_cdR]
  have main : (s.length = 7 ∨ s.length = 12) → condP (s.all isDig) ((10 : Int) ≠ 0 ∧ inR .i64 (10 - Int.tmod (cdSum s s.length) 10) ∧ (10 : Int) ≠ 0 ∧ AV.tuple [.int .i64 (Int.tmod (10 - Int.tmod (cdSum s s.length) 10) 10), .bool true] = .tuple [.int .i64 (cdF s).1, .bool (cdF s).2] ∧ ([] : List (Nat × AObj)) = [])
      (AV.tuple [.int .i64 0, .bool false] = .tuple [.int .i64 (cdF s).1, .bool (cdF s).2] ∧ ([] : List (Nat × AObj)) = []) := by
    intro hl
    have hd : digitsF s 7 12 = s.all isDig := by
      unfold digitsF
      rcases hl with h | h <;> simp [h]
    refine condP_intro (fun ha => ?_) (fun ha => ?_)
    · have hb := cdSum_bound ha s.length (Nat.le_refl _)
      have e : Int.tmod (cdSum s s.length) 10 = cdSum s s.length % 10 := Int.tmod_eq_emod_of_nonneg (by omega)
      rw [e, Int.tmod_eq_emod_of_nonneg (by omega)]
      refine ⟨by omega, by simp only [inR]; omega, by omega, ?_, rfl⟩
      simp [cdF, hd, ha]
    · refine ⟨?_, rfl⟩
      simp [cdF, hd, ha]
  refine condP_ndec (fun h1 => condP_ndec (fun h2 => ⟨?_, rfl⟩) (fun h2 => ⟨rfl, by omega, main (by omega)⟩)) (fun h1 => ⟨rfl, by omega, main (by omega)⟩)
  have hd : digitsF s 7 12 = false := by unfold digitsF; rw [decide_eq_false h1, decide_eq_false h2]; rfl
  simp [cdF, hd]

end Go.Eng
/- The tape. -/
namespace Go.Eng
open Go.Proofs Go.RowKit
variable {C : Ctx} [C.Loose]
set_option maxRecDepth 20000
theorem nf_fold (n k : Int) (R : AV → List (Nat × AObj) → Prop) : wpFn te [] [] 0 Tryz.f23 [.int .i64 n, .int .i64 k] [] R = (True ∧ True ∧ IntKind.wrap IntKind.u64 (max k (1 : Int)) ≠ (0 : Int) ∧ inR .i64 (Int.tmod (IntKind.wrap IntKind.u64 n) (IntKind.wrap IntKind.u64 (max k (1 : Int)))) ∧ R (.int .i64 (Int.tmod (IntKind.wrap IntKind.u64 n) (IntKind.wrap IntKind.u64 (max k (1 : Int))))) []) := by kernel_rfl
theorem nf_next (n : Nat) (v : Nat → Int) (a k : Int) (R : AV → List (Nat × AObj) → Prop) : wpFn te [] [] 0 Tryz.f27 [.ptr 0 0, .int .i64 k] [.cells [.view 1 n (intRow v), .int .i64 a] 28] R = (condP (decide (a < (↑n : Int))) (((0 : Int) ≤ a ∧ a < (↑n : Int) ∧ 1 = 1) ∧ inR .i64 (a + (1 : Int)) ∧ True ∧ True ∧ IntKind.wrap IntKind.u64 (max k (1 : Int)) ≠ (0 : Int) ∧ inR .i64 (Int.tmod (IntKind.wrap IntKind.u64 (v (Int.toNat a))) (IntKind.wrap IntKind.u64 (max k (1 : Int)))) ∧ R (.int .i64 (Int.tmod (IntKind.wrap IntKind.u64 (v (Int.toNat a))) (IntKind.wrap IntKind.u64 (max k (1 : Int))))) [(0, .cells [.view 1 n (intRow v), .int .i64 (a + (1 : Int))] 28)]) (inR .i64 (a + (1 : Int)) ∧ True ∧ True ∧ IntKind.wrap IntKind.u64 (max k (1 : Int)) ≠ (0 : Int) ∧ inR .i64 (Int.tmod (IntKind.wrap IntKind.u64 0) (IntKind.wrap IntKind.u64 (max k (1 : Int)))) ∧ R (.int .i64 (Int.tmod (IntKind.wrap IntKind.u64 0) (IntKind.wrap IntKind.u64 (max k (1 : Int))))) [(0, .cells [.view 1 n (intRow v), .int .i64 (a + (1 : Int))] 28)])) := by kernel_rfl

theorem wrap_u64 (n : Int) : IntKind.wrap .u64 n = n % 18446744073709551616 := by
  show n % (2 : Int) ^ 64 = _
  rfl
theorem next_val {k : Int} (h : 1 ≤ k ∧ k ≤ 1000000) (x : Int) : IntKind.wrap .u64 (max k 1) ≠ 0 ∧ Int.tmod (IntKind.wrap .u64 x) (IntKind.wrap .u64 (max k 1)) = foldV x k := by
  have e : IntKind.wrap .u64 (max k 1) = k := by
    rw [wrap_u64, Int.max_eq_left h.1]
    omega
  rw [e, wrap_u64]
  have hx : 0 ≤ x % 18446744073709551616 := by omega
  rw [Int.tmod_eq_emod_of_nonneg hx]
  exact ⟨by omega, rfl⟩

theorem fold_ok (hP : C.P = Tryz.prog) : SpecOK C 23 S_fold := by
  have _ : C.Loose := inferInstance
  rintro args objs U Os vc h hvc
  unfold S_fold at h
  split at h <;> simp only [Option.some.injEq, Prod.mk.injEq, reduceCtorEq] at h
  rename_i n k
  obtain ⟨rfl, rfl, rfl⟩ := h
  refine SpecOK.wp0 (prg hP) [] 0 .nil (hP ▸ Tryz.func23) rfl rfl rfl ?_
  rw [nf_fold]
  obtain ⟨h1, h2⟩ := next_val hvc n
  have h3 := foldV_range hvc.1 n
  rw [h2]
  exact ⟨trivial, trivial, h1, by simp only [inR]; omega, rfl, rfl⟩

theorem next_ok (hP : C.P = Tryz.prog) : SpecOK C 27 S_next := by
  have _ : C.Loose := inferInstance
  rintro args objs U Os vc h hvc
  unfold S_next at h
  split at h <;> simp only [Option.some.injEq, Prod.mk.injEq, reduceCtorEq] at h
  rename_i k sz n f a t
  obtain ⟨rfl, rfl, rfl⟩ := h
  obtain ⟨rfl, rfl, hf, hk, ha⟩ := hvc
  rw [hf]
  have hv : vInt (intRow (vInt f)) = vInt f := rfl
  rw [hv]
  generalize vInt f = v at *
  refine SpecOK.wp0 (prg hP) [] 0 .nil (hP ▸ Tryz.func27) rfl rfl rfl ?_
  rw [nf_next]
  unfold nextV
  refine condP_dec (fun h => ?_) (fun h => ?_)
  · obtain ⟨h1, h2⟩ := next_val hk (v a.toNat)
    have h3 := foldV_range hk.1 (v a.toNat)
    rw [h2, decide_eq_true h]
    exact ⟨⟨by omega, by omega, rfl⟩, by simp only [inR]; omega, trivial, trivial, h1, by simp only [inR]; omega, rfl, rfl⟩
  · obtain ⟨h1, h2⟩ := next_val hk 0
    have h3 := foldV_range hk.1 0
    rw [h2, decide_eq_false h]
    exact ⟨by simp only [inR]; omega, trivial, trivial, h1, by simp only [inR]; omega, rfl, rfl⟩

theorem nf_id_round (V j : Nat) (P : Nat → Prop) (R : Exit → St → Prop) : roundP ⟨te, [], [], 0, 39, 0⟩ (loopB Tryz.f43 4) [3, 4, 5] [4] [] (S_idl V) P R (S_idl V j) = (condP (decide ((0 : Int) ≤ (6 : Int) - (↑j : Int))) ((10 : Int) ≠ (0 : Int) ∧ inR .i64 ((48 : Int) + Int.tmod (↑(pw V j) : Int) (10 : Int)) ∧ inR .u8 ((48 : Int) + Int.tmod (↑(pw V j) : Int) (10 : Int)) ∧ ((0 : Int) ≤ (6 : Int) - (↑j : Int) ∧ (6 : Int) - (↑j : Int) < (↑7 : Int)) ∧ (List.length [AV.int .u8 ((48 : Int) + Int.tmod (↑(pw V j) : Int) (10 : Int))] = 1 ∧ Int.toNat ((6 : Int) - (↑j : Int)) < 7 ∧ 1 = 1) ∧ ((10 : Int) ≠ (0 : Int) ∧ inR .i64 (Int.tdiv (↑(pw V j) : Int) (10 : Int))) ∧ inR .i64 ((6 : Int) - (↑j : Int) - (1 : Int)) ∧ ∃ (i' : Nat), (TEq [(3, .int .i64 (Int.tdiv (↑(pw V j) : Int) (10 : Int))), (4, .own 0 7), (5, .int .i64 ((6 : Int) - (↑j : Int) - (1 : Int)))] [(3, .int .i64 (↑(pw V i') : Int)), (4, .own 0 7), (5, .int .i64 ((6 : Int) - (↑i' : Int)))] ∧ RowsEq [(0, .row 5 1 7 (fun (k : Nat) => if k = Int.toNat ((6 : Int) - (↑j : Int)) then [.int .u8 ((48 : Int) + Int.tmod (↑(pw V j) : Int) (10 : Int))] else [.int .u8 (bif decide (7 ≤ k + j) then dgI V k else (0 : Int))]) false)] [(0, .row 5 1 7 (fun (k : Nat) => [.int .u8 (bif decide (7 ≤ k + i') then dgI V k else (0 : Int))]) false)]) ∧ P i') ((∀ (i : Nat), i < 7 → true = true) ∧ ∃ (O' : List (Nat × AObj)), RowsEq [(0, .row 5 1 7 (fun (k : Nat) => [.int .u8 (bif decide (7 ≤ k + j) then dgI V k else (0 : Int))]) false)] O' ∧ R (.exit 0) (St.mk [(4, .own 0 7)] O' 1 []))) := by kernel_rfl
theorem nf_id (n : Int) (V : Nat) (R : AV → List (Nat × AObj) → Prop) : wpFn te [(23, .det S_fold), (85, .det S_checkDigit)] [(4, L_id V)] 2 Tryz.f43 [.int .i64 n] [] R = (((1 : Int) ≤ (1000000 : Int) ∧ (1000000 : Int) ≤ (1000000 : Int)) ∧ inR .i64 ((1000000 : Int) + foldV n (1000000 : Int)) ∧ ((0 : Int) ≤ (7 : Int) ∧ (7 : Int) ≤ (7 : Int) ∧ (↑(TI.bytes (TI.mk (TypeDesc.int IntKind.u8) 1 1 (Value.int IntKind.u8 0) false)) : Int) * (7 : Int) ≤ (281474976710656 : Int) ∧ (7 : Int) ≤ (9223372036854775807 : Int)) ∧ (TEq [(3, .int .i64 ((1000000 : Int) + foldV n (1000000 : Int))), (4, .own 0 7), (5, .int .i64 6)] [(3, .int .i64 (↑(pw V 0) : Int)), (4, .own 0 7), (5, .int .i64 ((6 : Int) - (↑0 : Int)))] ∧ RowsEq [(0, .row 5 1 7 (fun (x : Nat) => [.int .u8 0]) false)] [(0, .row 5 1 7 (fun (k : Nat) => [.int .u8 (bif decide (7 ≤ k + 0) then dgI V k else (0 : Int))]) false)]) ∧ V < 2000000 ∧ ((7 ≤ 7 ∧ 1 = 1) ∧ ∀ (i : Nat), i < 7 → isU8 (idRow V i) = true) ∧ True ∧ ((7 ≤ 7 ∧ 1 = 1) ∧ ∀ (i : Nat), i < 7 → isU8 (idRow V i) = true) ∧ inR .i64 ((48 : Int) + Prod.fst (cdF (bytesA 7 (idRow V)))) ∧ inR .u8 ((48 : Int) + Prod.fst (cdF (bytesA 7 (idRow V)))) ∧ (1 ≤ 16777216 ∧ 1 = 1 ∧ 1 ≤ 9223372036854775807) ∧ ((1 ≤ 1 ∧ 1 = 1) ∧ ∀ (i : Nat), i < 1 → isU8 (chunkA (TI.sz (TI.mk (TypeDesc.int IntKind.u8) 1 1 (Value.int IntKind.u8 0) false)) (.int .u8 ((48 : Int) + Prod.fst (cdF (bytesA 7 (idRow V)))) :: List.append [] (List.flatten (List.replicate (nat_lit 0) [.int .u8 0]))) i) = true) ∧ List.length (bytesA 7 (idRow V)) + List.length (bytesA 1 (chunkA (TI.sz (TI.mk (TypeDesc.int IntKind.u8) 1 1 (Value.int IntKind.u8 0) false)) (.int .u8 ((48 : Int) + Prod.fst (cdF (bytesA 7 (idRow V)))) :: List.append [] (List.flatten (List.replicate (nat_lit 0) [.int .u8 0]))))) ≤ 9223372036854775807 ∧ R (.str (bytesA 7 (idRow V) ++ bytesA 1 (chunkA (TI.sz (TI.mk (TypeDesc.int IntKind.u8) 1 1 (Value.int IntKind.u8 0) false)) (.int .u8 ((48 : Int) + Prod.fst (cdF (bytesA 7 (idRow V)))) :: List.append [] (List.flatten (List.replicate (nat_lit 0) [.int .u8 0])))))) []) := by kernel_rfl

theorem pw_step (V j : Nat) : Int.tdiv (pw V j : Nat) 10 = (pw V (j + 1) : Nat) := by
  rw [Int.tdiv_eq_ediv_of_nonneg (Int.natCast_nonneg _)]
  unfold pw
  rw [Nat.pow_succ, ← Nat.div_div_eq_div_mul]
  rfl
theorem pw_le (V j : Nat) : pw V j ≤ V := Nat.div_le_self _ _
theorem id_loop (hP : C.P = Tryz.prog) (V : Nat) : LoopOK C 0 39 (loopC Tryz.f43 4) (L_id V) := by
  have _ : C.Loose := inferInstance
  rintro st Q ⟨h0, hv, hQ⟩
  refine LoopOK.mk (prg hP) [] 0 .nil [3, 4, 5] [4] [] (S_idl V) (fun j => j ≤ 7) (fun j => 7 - j) 0 (by omega) h0 (fun j hj => ?_) (fun i => ⟨fun _ _ => rfl, trivial⟩)
  rw [nf_id_round]
  have hle := pw_le V j
  have ht : Int.tmod (pw V j : Nat) 10 = ((pw V j % 10 : Nat) : Int) := by
    rw [Int.tmod_eq_emod_of_nonneg (Int.natCast_nonneg _)]; rfl
  rw [ht, pw_step]
  have hle' := pw_le V (j + 1)
  have hm := Nat.mod_lt (pw V j) (show 0 < 10 by omega)
  refine condP_dec (fun h => ?_) (fun h => ⟨fun _ _ => rfl, _, ?_, hQ⟩)
  · refine ⟨by omega, by simp only [inR]; omega, by simp only [inR]; omega, ⟨h, by omega⟩, ⟨rfl, by omega, rfl⟩, ⟨by omega, by simp only [inR]; omega⟩, by simp only [inR]; omega, j + 1, ⟨?_, ⟨rfl, rfl, rfl, rfl, rfl, fun k hk => ?_⟩, trivial⟩, by omega, by omega⟩
    · rw [show (6 : Int) - (j : Int) - 1 = 6 - ((j + 1 : Nat) : Int) by omega]
      rfl
    · dsimp only
      split
      · rename_i e
        have e' : 6 - k = j := by omega
        rw [decide_eq_true (show 7 ≤ k + (j + 1) by omega)]
        unfold dgI
        rw [e']; rfl
      · rename_i e
        by_cases h7 : 7 ≤ k + j
        · rw [decide_eq_true h7, decide_eq_true (show 7 ≤ k + (j + 1) by omega)]
        · rw [decide_eq_false h7, decide_eq_false (show ¬ 7 ≤ k + (j + 1) by omega)]
  · have : j = 7 := by omega
    subst this
    refine ⟨⟨rfl, rfl, rfl, rfl, rfl, fun k hk => ?_⟩, trivial⟩
    dsimp only
    rw [decide_eq_true (show 7 ≤ k + 7 by omega)]
    rfl

theorem id_ok (hP : C.P = Tryz.prog) : SpecOK C 43 S_id := by
  rintro args objs U Os vc h hvc
  unfold S_id at h
  split at h <;> simp only [Option.some.injEq, Prod.mk.injEq, reduceCtorEq] at h
  rename_i n
  obtain ⟨rfl, rfl, rfl⟩ := h
  refine SpecOK.wpL (prg hP) [(23, .det S_fold), (85, .det S_checkDigit)] [(4, L_id (idV n))] 2 (.cons (fold_ok hP) (.cons (cdR_ok hP) .nil)) (hP ▸ Tryz.func43) rfl rfl rfl [(loopC Tryz.f43 4, L_id (idV n))] (by kernel_rfl) ⟨id_loop hP _, trivial⟩ ?_
  rw [nf_id]
  have hf := foldV_range (show (1 : Int) ≤ 1000000 by omega) n
  have hV : ((idV n : Nat) : Int) = 1000000 + foldV n 1000000 := by unfold idV; omega
  have hl := id7_len n
  have hc := cdF_range (id7 n)
  refine ⟨⟨by omega, by omega⟩, by simp only [inR]; omega, ⟨by omega, by omega, by decide, by omega⟩, ⟨?_, ⟨rfl, rfl, rfl, rfl, rfl, fun k hk => ?_⟩, trivial⟩, by omega, ⟨⟨by omega, rfl⟩, fun _ _ => rfl⟩, trivial, ⟨⟨by omega, rfl⟩, fun _ _ => rfl⟩, ?_, ?_, ⟨by omega, rfl, by omega⟩, ⟨⟨by omega, rfl⟩, fun i hi => ?_⟩, ?_, rfl, rfl⟩
  · rw [← hV]
    show TEq [(3, .int .i64 ((idV n : Nat) : Int)), (4, .own 0 7), (5, .int .i64 6)] [(3, .int .i64 ((idV n / 1 : Nat) : Int)), (4, .own 0 7), (5, .int .i64 6)]
    rw [Nat.div_one]; rfl
  · dsimp only
    rw [decide_eq_false (show ¬ 7 ≤ k + 0 by omega)]; rfl
  · show inR .i64 (48 + (cdF (id7 n)).1)
    simp only [inR]; omega
  · show inR .u8 (48 + (cdF (id7 n)).1)
    simp only [inR]; omega
  · obtain rfl : i = 0 := by omega
    rfl
  · show (id7 n).length + _ ≤ _
    rw [hl]; simp [bytesA]

end Go.Eng
/- Rows of a scanner: what Validate answers; rows of a tape. -/
namespace Go.Eng
open Go.Proofs Go.RowKit
variable {C : Ctx} [C.Loose]
set_option maxRecDepth 20000
theorem nf_outlet (n : Nat) (v : Nat → Int) (a : Int) (R : AV → List (Nat × AObj) → Prop) : wpFn te [(27, .det S_next)] [] 0 Tryz.f47 [.ptr 0 0] [.cells [.view 1 n (intRow v), .int .i64 a] 28] R = ((3 ≤ 16777216 ∧ 1 = 1 ∧ 3 ≤ 9223372036854775807) ∧ (28 = 28 ∧ 1 = 1 ∧ intRow v = intRow (vInt (intRow v)) ∧ ((1 : Int) ≤ (3 : Int) ∧ (3 : Int) ≤ (1000000 : Int)) ∧ (0 : Int) ≤ a ∧ a ≤ (4611686018427387904 : Int)) ∧ ((0 : Int) ≤ nextV n (vInt (intRow v)) a (3 : Int) ∧ nextV n (vInt (intRow v)) a (3 : Int) < (↑3 : Int)) ∧ (Int.toNat (nextV n (vInt (intRow v)) a (3 : Int)) < 3 ∧ 1 = 1) ∧ R (.str (List.getD [[(111 : UInt8), 49], [(111 : UInt8), 50], [(112 : UInt8)]] (Int.toNat (nextV n (vInt (intRow v)) a (3 : Int))) [])) [(0, .cells [.view 1 n (intRow v), .int .i64 (a + (1 : Int))] 28)]) := by kernel_rfl
theorem nf_tproduct (n : Nat) (v : Nat → Int) (a : Int) (R : AV → List (Nat × AObj) → Prop) : wpFn te [(27, .det S_next), (43, .det S_id)] [] 0 Tryz.f48 [.ptr 0 0] [.cells [.view 1 n (intRow v), .int .i64 a] 28] R = ((28 = 28 ∧ 1 = 1 ∧ intRow v = intRow (vInt (intRow v)) ∧ ((1 : Int) ≤ (4 : Int) ∧ (4 : Int) ≤ (1000000 : Int)) ∧ (0 : Int) ≤ a ∧ a ≤ (4611686018427387904 : Int)) ∧ True ∧ R (.str (idF (nextV n (vInt (intRow v)) a (4 : Int)))) [(0, .cells [.view 1 n (intRow v), .int .i64 (a + (1 : Int))] 28)]) := by kernel_rfl
theorem outlet_ok (hP : C.P = Tryz.prog) : SpecOK C 47 S_outlet := by
  rintro args objs U Os vc h hvc
  unfold S_outlet at h
  split at h <;> simp only [Option.some.injEq, Prod.mk.injEq, reduceCtorEq] at h
  rename_i sz n f a t
  obtain ⟨rfl, rfl, rfl⟩ := h
  obtain ⟨rfl, rfl, hf, h1, h2⟩ := hvc
  rw [hf]
  generalize vInt f = v
  have hw : vInt (intRow v) = v := rfl
  refine SpecOK.wp0 (prg hP) [(27, .det S_next)] 0 (.cons (next_ok hP) .nil) (hP ▸ Tryz.func47) rfl rfl rfl ?_
  rw [nf_outlet]
  have r := nextV_range (show (1 : Int) ≤ 3 by omega) n v a
  exact ⟨⟨by omega, rfl, by omega⟩, ⟨rfl, rfl, rfl, ⟨by omega, by omega⟩, by omega, by omega⟩, ⟨r.1, r.2⟩, ⟨by rw [hw]; omega, rfl⟩, rfl, rfl⟩

theorem tproduct_ok (hP : C.P = Tryz.prog) : SpecOK C 48 S_product := by
  rintro args objs U Os vc h hvc
  unfold S_product at h
  split at h <;> simp only [Option.some.injEq, Prod.mk.injEq, reduceCtorEq] at h
  rename_i sz n f a t
  obtain ⟨rfl, rfl, rfl⟩ := h
  obtain ⟨rfl, rfl, hf, h1, h2⟩ := hvc
  rw [hf]
  generalize vInt f = v
  have hw : vInt (intRow v) = v := rfl
  refine SpecOK.wp0 (prg hP) [(27, .det S_next), (43, .det S_id)] 0 (.cons (next_ok hP) (.cons (id_ok hP) .nil)) (hP ▸ Tryz.func48) rfl rfl rfl ?_
  rw [nf_tproduct]
  exact ⟨⟨rfl, rfl, rfl, ⟨by omega, by omega⟩, by omega, by omega⟩, trivial, rfl, rfl⟩

theorem outF_ok : ∀ i, i < 3 → nameF (List.getD [[111, 49], [111, 50], [112]] i []) = true ∧ (List.getD [[111, 49], [111, 50], [112]] i ([] : List UInt8)).length ≤ 2 := by decide +kernel
end Go.Eng
