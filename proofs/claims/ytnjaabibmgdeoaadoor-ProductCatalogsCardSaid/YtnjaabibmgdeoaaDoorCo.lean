/- Lemmas that the tied card of ProductCatalogs is proved by. -/
import Derived.Test.YtnjaabibmgdeoaaDoorCm
import Derived.Test.YtnjaabibmgdeoaaDoorCk
/- The package product: its functions compute what the plain functions say. -/
namespace Go.Eng
open Go.Proofs
set_option maxRecDepth 20000

theorem nf_digits (s : List UInt8) (a b : Int) (R : AV → List (Nat × AObj) → Prop) : wpFn te [(36, .det S_trim)] [] 0 Tryd.f34 [.str s, .int .i64 a, .int .i64 b] [] R = (condP (decide ((↑(List.length s) : Int) = a)) ((List.length s ≤ 9223372036854775807 ∧ 2 ≤ 10 ∧ 10 < 4294967281 ∧ ∀ (b : UInt8), b ∈ [(48 : UInt8), 49, 50, 51, 52, 53, 54, 55, 56, 57] → UInt8.toNat b < 128) ∧ R (.bool (decide (trimF ([(48 : UInt8), 49, 50, 51, 52, 53, 54, 55, 56, 57]) s = []))) []) (condP (decide ((↑(List.length s) : Int) = b)) ((List.length s ≤ 9223372036854775807 ∧ 2 ≤ 10 ∧ 10 < 4294967281 ∧ ∀ (b : UInt8), b ∈ [(48 : UInt8), 49, 50, 51, 52, 53, 54, 55, 56, 57] → UInt8.toNat b < 128) ∧ R (.bool (decide (trimF ([(48 : UInt8), 49, 50, 51, 52, 53, 54, 55, 56, 57]) s = []))) []) (R (.bool false) []))) := by kernel_rfl
theorem nf_checkDigit (s : List UInt8) (R : AV → List (Nat × AObj) → Prop) : wpFn te [(34, .det S_digits)] [(5, L_checkDigit s)] 0 Tryd.f29 [.str s] [] R = (((7 : Int) ≤ (100 : Int) ∧ (12 : Int) ≤ (100 : Int)) ∧ condP (!digitsF s (7 : Int) (12 : Int)) (R (.tuple [.int .i64 0, .bool false]) []) (some (St.mk [(0, .str s), (4, .int .i64 0), (11, .int .i64 (↑(List.length s) : Int)), (12, .int .i64 0)] [] 0 []) = some (St.mk [(0, .str s), (4, .int .i64 (cdSum s 0)), (11, .int .i64 (↑(List.length s) : Int)), (12, .int .i64 (↑0 : Int))] [] 0 []) ∧ List.length s ≤ 12 ∧ List.all s isDig = true ∧ (10 : Int) ≠ (0 : Int) ∧ inR .i64 ((10 : Int) - Int.tmod (cdSum s (List.length s)) (10 : Int)) ∧ (10 : Int) ≠ (0 : Int) ∧ R (.tuple [.int .i64 (Int.tmod ((10 : Int) - Int.tmod (cdSum s (List.length s)) (10 : Int)) (10 : Int)), .bool true]) [])) := by kernel_rfl
theorem nf_checkDigit_loop (s : List UInt8) (k : Nat) (P : Nat → Prop) (R : Exit → St → Prop) : roundP ⟨te, [], [], 0, 36, 0⟩ (loopB Tryd.f29 5) [0, 4, 11, 12] [4] [] (S_cd s) P R (S_cd s k) = (condP (decide ((↑k : Int) < (↑(List.length s) : Int))) (inR .i64 ((↑(List.length s) : Int) - (↑k : Int)) ∧ (2 : Int) ≠ (0 : Int) ∧ inR .i64 ((2 : Int) * Int.tmod ((↑(List.length s) : Int) - (↑k : Int)) (2 : Int)) ∧ inR .i64 ((1 : Int) + (2 : Int) * Int.tmod ((↑(List.length s) : Int) - (↑k : Int)) (2 : Int)) ∧ ((0 : Int) ≤ (↑k : Int) ∧ (↑k : Int) < (↑(List.length s) : Int)) ∧ inR .i64 (((↑(UInt8.toNat (List.getD s (Int.toNat (↑k : Int)) (0 : UInt8))) : Int) - (48 : Int)) % (256 : Int)) ∧ inR .i64 (((1 : Int) + (2 : Int) * Int.tmod ((↑(List.length s) : Int) - (↑k : Int)) (2 : Int)) * (((↑(UInt8.toNat (List.getD s (Int.toNat (↑k : Int)) (0 : UInt8))) : Int) - (48 : Int)) % (256 : Int))) ∧ inR .i64 (cdSum s k + ((1 : Int) + (2 : Int) * Int.tmod ((↑(List.length s) : Int) - (↑k : Int)) (2 : Int)) * (((↑(UInt8.toNat (List.getD s (Int.toNat (↑k : Int)) (0 : UInt8))) : Int) - (48 : Int)) % (256 : Int))) ∧ inR .i64 ((↑k : Int) + (1 : Int)) ∧ ∃ (i' : Nat), some (St.mk [(0, .str s), (4, .int .i64 (cdSum s k + ((1 : Int) + (2 : Int) * Int.tmod ((↑(List.length s) : Int) - (↑k : Int)) (2 : Int)) * (((↑(UInt8.toNat (List.getD s (Int.toNat (↑k : Int)) (0 : UInt8))) : Int) - (48 : Int)) % (256 : Int)))), (11, .int .i64 (↑(List.length s) : Int)), (12, .int .i64 ((↑k : Int) + (1 : Int)))] [] 0 []) = some (St.mk [(0, .str s), (4, .int .i64 (cdSum s i')), (11, .int .i64 (↑(List.length s) : Int)), (12, .int .i64 (↑i' : Int))] [] 0 []) ∧ P i') (R (.exit 0) (St.mk [(4, .int .i64 (cdSum s k))] [] 0 []))) := by kernel_rfl
theorem nf_validID (s : List UInt8) (R : AV → List (Nat × AObj) → Prop) : wpFn te [(34, .det S_digits), (29, .det S_checkDigit)] [] 0 Tryd.f21 [.str s] [] R = (((8 : Int) ≤ (100 : Int) ∧ (13 : Int) ≤ (100 : Int)) ∧ condP (!digitsF s (8 : Int) (13 : Int)) (R (.bool false) []) (inR .i64 ((↑(List.length s) : Int) - (1 : Int)) ∧ ((0 : Int) ≤ (↑(List.length s) : Int) - (1 : Int) ∧ (↑(List.length s) : Int) - (1 : Int) ≤ (↑(List.length s) : Int)) ∧ True ∧ ((0 : Int) ≤ (↑(List.length s) : Int) - (1 : Int) ∧ (↑(List.length s) : Int) - (1 : Int) < (↑(List.length s) : Int)) ∧ inR .i64 (((↑(UInt8.toNat (List.getD s (Int.toNat ((↑(List.length s) : Int) - (1 : Int))) (0 : UInt8))) : Int) - (48 : Int)) % (256 : Int)) ∧ R (.bool (decide (Prod.fst (cdF (List.take (Int.toNat ((↑(List.length s) : Int) - (1 : Int))) s)) = ((↑(UInt8.toNat (List.getD s (Int.toNat ((↑(List.length s) : Int) - (1 : Int))) (0 : UInt8))) : Int) - (48 : Int)) % (256 : Int)))) [])) := by kernel_rfl


variable {C : Ctx}

theorem digits_ok (hP : C.P = Tryd.prog) (htrim : SpecOK C 36 S_trim) : SpecOK C 34 S_digits := by
  rintro args objs U Os vc h hvc
  unfold S_digits at h
  split at h <;> simp only [Option.some.injEq, Prod.mk.injEq, reduceCtorEq] at h
  rename_i s a b
  obtain ⟨rfl, rfl, rfl⟩ := h
  refine SpecOK.wp0 (prg hP) [(36, .det S_trim)] 0 (.cons htrim .nil) (hP ▸ Tryd.func34) rfl rfl rfl ?_
  rw [nf_digits]
  have hm : (9223372036854775807 : Nat) = maxLen := rfl
  have hlt : ∀ b ∈ ([48, 49, 50, 51, 52, 53, 54, 55, 56, 57] : List UInt8), UInt8.toNat b < 128 := by decide
  refine condP_intro (fun h => ?_) (fun h => condP_intro (fun h' => ?_) (fun h' => ?_))
  · have h2 := of_decide_eq_true h
    refine ⟨⟨by omega, by omega, by omega, hlt⟩, ?_, rfl⟩
    simp only [digitsF, h, Bool.true_or, Bool.true_and, trimF_digits]
  · have h2 := of_decide_eq_true h'
    refine ⟨⟨by omega, by omega, by omega, hlt⟩, ?_, rfl⟩
    simp only [digitsF, h', Bool.or_true, Bool.true_and, trimF_digits]
  · simp [digitsF, h, h']

theorem cdSum_bound {s : List UInt8} (h : s.all isDig = true) : ∀ k, k ≤ s.length → 0 ≤ cdSum s k ∧ cdSum s k ≤ 27 * k
  | 0, _ => by simp [cdSum]
  | k + 1, hk => by
    have ih := cdSum_bound h k (by omega)
    have hd := isDig_at h k (by omega)
    simp only [cdSum]
    rcases Int.emod_two_eq (↑s.length - ↑k) with e | e <;> rw [e] <;> omega

theorem cd_loop_ok (hP : C.P = Tryd.prog) (s : List UInt8) : LoopOK C 0 36 (loopC Tryd.f29 5) (L_checkDigit s) := by
  rintro st Q ⟨h0, hlen, hall, hQ⟩
  refine LoopOK.mk (prg hP) [] 0 .nil [0, 4, 11, 12] [4] [] (S_cd s) (fun k => k ≤ s.length) (fun k => s.length - k) 0 (Nat.zero_le _) h0 fun k hk => ?_
  rw [nf_checkDigit_loop]
  have hb := cdSum_bound hall k hk
  refine condP_intro (fun h => ?_) (fun h => ?_)
  · have h := of_decide_eq_true h
    have hd := isDig_at hall k (by omega)
    have e : Int.tmod (↑s.length - ↑k) 2 = (↑s.length - ↑k) % 2 := Int.tmod_eq_emod_of_nonneg (by omega)
    have e3 : ((s.getD k 0).toNat - 48 : Int) % 256 = (s.getD k 0).toNat - 48 := by omega
    simp only [inR, e, Int.toNat_natCast, e3]
    have hs : cdSum s (k + 1) = cdSum s k + (1 + 2 * ((↑s.length - ↑k) % 2)) * (↑(s.getD k 0).toNat - 48) := rfl
    rcases Int.emod_two_eq (↑s.length - ↑k) with e | e <;> rw [e] at hs ⊢ <;> and_intros <;> first
      | omega
      | exact ⟨k + 1, by rw [hs]; rfl, by omega, by omega⟩
  · have h := of_decide_eq_false h
    have hk : k = s.length := by omega
    rw [hk]; exact hQ

theorem checkDigit_ok (hP : C.P = Tryd.prog) (htrim : SpecOK C 36 S_trim) : SpecOK C 29 S_checkDigit := by
  rintro args objs U Os vc h hvc
  unfold S_checkDigit at h
  split at h <;> simp only [Option.some.injEq, Prod.mk.injEq, reduceCtorEq] at h
  rename_i s
  obtain ⟨rfl, rfl, rfl⟩ := h
  refine SpecOK.wpL (prg hP) [(34, .det S_digits)] [(5, L_checkDigit s)] 0 (.cons (digits_ok hP htrim) .nil) (hP ▸ Tryd.func29) rfl rfl rfl [(loopC Tryd.f29 5, L_checkDigit s)] (by kernel_rfl) ⟨cd_loop_ok hP s, trivial⟩ ?_
  rw [nf_checkDigit]
  refine ⟨by omega, condP_intro (fun h => ?_) (fun h => ?_)⟩
  · have h : digitsF s 7 12 = false := by simpa using h
    simp [cdF, h]
  · have h : digitsF s 7 12 = true := by simpa using h
    have h' := h
    simp only [digitsF, Bool.and_eq_true, Bool.or_eq_true, decide_eq_true_eq] at h'
    have hb := cdSum_bound h'.2 s.length (Nat.le_refl _)
    have e : Int.tmod (cdSum s s.length) 10 = cdSum s s.length % 10 := Int.tmod_eq_emod_of_nonneg (by omega)
    rw [e, Int.tmod_eq_emod_of_nonneg (by omega)]
    refine ⟨rfl, by omega, h'.2, by omega, by simp only [inR]; omega, by omega, ?_, rfl⟩
    simp [cdF, h]

theorem validID_ok (hP : C.P = Tryd.prog) (htrim : SpecOK C 36 S_trim) : SpecOK C 21 S_validID := by
  rintro args objs U Os vc h hvc
  unfold S_validID at h
  split at h <;> simp only [Option.some.injEq, Prod.mk.injEq, reduceCtorEq] at h
  rename_i s
  obtain ⟨rfl, rfl, rfl⟩ := h
  refine SpecOK.wp0 (prg hP) [(34, .det S_digits), (29, .det S_checkDigit)] 0 (.cons (digits_ok hP htrim) (.cons (checkDigit_ok hP htrim) .nil)) (hP ▸ Tryd.func21) rfl rfl rfl ?_
  rw [nf_validID]
  refine ⟨by omega, condP_intro (fun h => ?_) (fun h => ?_)⟩
  · have h : digitsF s 8 13 = false := by simpa using h
    simp [validIDF, h]
  · have h : digitsF s 8 13 = true := by simpa using h
    have h' := h
    simp only [digitsF, Bool.and_eq_true, Bool.or_eq_true, decide_eq_true_eq] at h'
    have e : (↑s.length - 1 : Int).toNat = s.length - 1 := by omega
    have hd := isDig_at h'.2 (s.length - 1) (by omega)
    rw [e]
    have e2 : ((s.getD (s.length - 1) 0).toNat - 48 : Int) % 256 = (s.getD (s.length - 1) 0).toNat - 48 := by omega
    simp only [inR, e2]
    refine ⟨by omega, by omega, trivial, by omega, by omega, ?_, trivial⟩
    simp [validIDF, h]

end Go.Eng
/- The reference of the products. -/
namespace Go.Eng
open Go.Proofs Go.RowKit
set_option maxRecDepth 20000
theorem nf_nameR (s : List UInt8) (R : AV → List (Nat × AObj) → Prop) : wpFn te [] [(2, L_nameR s)] 0 Tryd.f27 [.str s] [] R = (some (St.mk [(0, .str s), (6, .int .i64 (↑(List.length s) : Int)), (7, .int .i64 0)] [] 0 []) = some (St.mk [(0, .str s), (6, .int .i64 (↑(List.length s) : Int)), (7, .int .i64 (↑0 : Int))] [] 0 []) ∧ ((∀ (k : Nat), k < List.length s → OKat s k) → condP (decide ((1 : Int) ≤ (↑(List.length s) : Int))) (R (.bool (decide ((↑(List.length s) : Int) ≤ (24 : Int)))) []) (R (.bool false) [])) ∧ ∀ (k : Nat), k < List.length s → ¬OKat s k → R (.bool false) []) := by kernel_rfl
theorem nf_nameR_round (s : List UInt8) (k : Nat) (P : Nat → Prop) (R : Exit → St → Prop) : roundP ⟨te, [], [], 0, 59, 0⟩ (loopB Tryd.f27 2) [0, 6, 7] [0] [2] (S_nrState s) P R (S_nrState s k) = (condP (decide ((↑k : Int) < (↑(List.length s) : Int))) (((0 : Int) ≤ (↑k : Int) ∧ (↑k : Int) < (↑(List.length s) : Int)) ∧ condP (decide ((97 : Int) ≤ (↑(UInt8.toNat (List.getD s (Int.toNat (↑k : Int)) (0 : UInt8))) : Int))) (((0 : Int) ≤ (↑k : Int) ∧ (↑k : Int) < (↑(List.length s) : Int)) ∧ condP (decide ((↑(UInt8.toNat (List.getD s (Int.toNat (↑k : Int)) (0 : UInt8))) : Int) ≤ (122 : Int))) (inR .i64 ((↑k : Int) + (1 : Int)) ∧ ∃ (i' : Nat), some (St.mk [(0, .str s), (6, .int .i64 (↑(List.length s) : Int)), (7, .int .i64 ((↑k : Int) + (1 : Int)))] [] 0 []) = some (St.mk [(0, .str s), (6, .int .i64 (↑(List.length s) : Int)), (7, .int .i64 (↑i' : Int))] [] 0 []) ∧ P i') (((0 : Int) ≤ (↑k : Int) ∧ (↑k : Int) < (↑(List.length s) : Int)) ∧ condP (decide ((48 : Int) ≤ (↑(UInt8.toNat (List.getD s (Int.toNat (↑k : Int)) (0 : UInt8))) : Int))) (((0 : Int) ≤ (↑k : Int) ∧ (↑k : Int) < (↑(List.length s) : Int)) ∧ condP (!decide ((↑(UInt8.toNat (List.getD s (Int.toNat (↑k : Int)) (0 : UInt8))) : Int) ≤ (57 : Int))) (condP (decide ((↑k : Int) = (0 : Int))) (R .ret (St.mk [(2, .bool false)] [] 0 [])) (((0 : Int) ≤ (↑k : Int) ∧ (↑k : Int) < (↑(List.length s) : Int)) ∧ condP (!decide ((↑(UInt8.toNat (List.getD s (Int.toNat (↑k : Int)) (0 : UInt8))) : Int) = (45 : Int))) (((0 : Int) ≤ (↑k : Int) ∧ (↑k : Int) < (↑(List.length s) : Int)) ∧ condP (!decide ((↑(UInt8.toNat (List.getD s (Int.toNat (↑k : Int)) (0 : UInt8))) : Int) = (46 : Int))) (R .ret (St.mk [(2, .bool false)] [] 0 [])) (inR .i64 ((↑k : Int) + (1 : Int)) ∧ ∃ (i' : Nat), some (St.mk [(0, .str s), (6, .int .i64 (↑(List.length s) : Int)), (7, .int .i64 ((↑k : Int) + (1 : Int)))] [] 0 []) = some (St.mk [(0, .str s), (6, .int .i64 (↑(List.length s) : Int)), (7, .int .i64 (↑i' : Int))] [] 0 []) ∧ P i')) (inR .i64 ((↑k : Int) + (1 : Int)) ∧ ∃ (i' : Nat), some (St.mk [(0, .str s), (6, .int .i64 (↑(List.length s) : Int)), (7, .int .i64 ((↑k : Int) + (1 : Int)))] [] 0 []) = some (St.mk [(0, .str s), (6, .int .i64 (↑(List.length s) : Int)), (7, .int .i64 (↑i' : Int))] [] 0 []) ∧ P i'))) (inR .i64 ((↑k : Int) + (1 : Int)) ∧ ∃ (i' : Nat), some (St.mk [(0, .str s), (6, .int .i64 (↑(List.length s) : Int)), (7, .int .i64 ((↑k : Int) + (1 : Int)))] [] 0 []) = some (St.mk [(0, .str s), (6, .int .i64 (↑(List.length s) : Int)), (7, .int .i64 (↑i' : Int))] [] 0 []) ∧ P i')) (condP (decide ((↑k : Int) = (0 : Int))) (R .ret (St.mk [(2, .bool false)] [] 0 [])) (((0 : Int) ≤ (↑k : Int) ∧ (↑k : Int) < (↑(List.length s) : Int)) ∧ condP (!decide ((↑(UInt8.toNat (List.getD s (Int.toNat (↑k : Int)) (0 : UInt8))) : Int) = (45 : Int))) (((0 : Int) ≤ (↑k : Int) ∧ (↑k : Int) < (↑(List.length s) : Int)) ∧ condP (!decide ((↑(UInt8.toNat (List.getD s (Int.toNat (↑k : Int)) (0 : UInt8))) : Int) = (46 : Int))) (R .ret (St.mk [(2, .bool false)] [] 0 [])) (inR .i64 ((↑k : Int) + (1 : Int)) ∧ ∃ (i' : Nat), some (St.mk [(0, .str s), (6, .int .i64 (↑(List.length s) : Int)), (7, .int .i64 ((↑k : Int) + (1 : Int)))] [] 0 []) = some (St.mk [(0, .str s), (6, .int .i64 (↑(List.length s) : Int)), (7, .int .i64 (↑i' : Int))] [] 0 []) ∧ P i')) (inR .i64 ((↑k : Int) + (1 : Int)) ∧ ∃ (i' : Nat), some (St.mk [(0, .str s), (6, .int .i64 (↑(List.length s) : Int)), (7, .int .i64 ((↑k : Int) + (1 : Int)))] [] 0 []) = some (St.mk [(0, .str s), (6, .int .i64 (↑(List.length s) : Int)), (7, .int .i64 (↑i' : Int))] [] 0 []) ∧ P i'))))) (((0 : Int) ≤ (↑k : Int) ∧ (↑k : Int) < (↑(List.length s) : Int)) ∧ condP (decide ((48 : Int) ≤ (↑(UInt8.toNat (List.getD s (Int.toNat (↑k : Int)) (0 : UInt8))) : Int))) (((0 : Int) ≤ (↑k : Int) ∧ (↑k : Int) < (↑(List.length s) : Int)) ∧ condP (!decide ((↑(UInt8.toNat (List.getD s (Int.toNat (↑k : Int)) (0 : UInt8))) : Int) ≤ (57 : Int))) (condP (decide ((↑k : Int) = (0 : Int))) (R .ret (St.mk [(2, .bool false)] [] 0 [])) (((0 : Int) ≤ (↑k : Int) ∧ (↑k : Int) < (↑(List.length s) : Int)) ∧ condP (!decide ((↑(UInt8.toNat (List.getD s (Int.toNat (↑k : Int)) (0 : UInt8))) : Int) = (45 : Int))) (((0 : Int) ≤ (↑k : Int) ∧ (↑k : Int) < (↑(List.length s) : Int)) ∧ condP (!decide ((↑(UInt8.toNat (List.getD s (Int.toNat (↑k : Int)) (0 : UInt8))) : Int) = (46 : Int))) (R .ret (St.mk [(2, .bool false)] [] 0 [])) (inR .i64 ((↑k : Int) + (1 : Int)) ∧ ∃ (i' : Nat), some (St.mk [(0, .str s), (6, .int .i64 (↑(List.length s) : Int)), (7, .int .i64 ((↑k : Int) + (1 : Int)))] [] 0 []) = some (St.mk [(0, .str s), (6, .int .i64 (↑(List.length s) : Int)), (7, .int .i64 (↑i' : Int))] [] 0 []) ∧ P i')) (inR .i64 ((↑k : Int) + (1 : Int)) ∧ ∃ (i' : Nat), some (St.mk [(0, .str s), (6, .int .i64 (↑(List.length s) : Int)), (7, .int .i64 ((↑k : Int) + (1 : Int)))] [] 0 []) = some (St.mk [(0, .str s), (6, .int .i64 (↑(List.length s) : Int)), (7, .int .i64 (↑i' : Int))] [] 0 []) ∧ P i'))) (inR .i64 ((↑k : Int) + (1 : Int)) ∧ ∃ (i' : Nat), some (St.mk [(0, .str s), (6, .int .i64 (↑(List.length s) : Int)), (7, .int .i64 ((↑k : Int) + (1 : Int)))] [] 0 []) = some (St.mk [(0, .str s), (6, .int .i64 (↑(List.length s) : Int)), (7, .int .i64 (↑i' : Int))] [] 0 []) ∧ P i')) (condP (decide ((↑k : Int) = (0 : Int))) (R .ret (St.mk [(2, .bool false)] [] 0 [])) (((0 : Int) ≤ (↑k : Int) ∧ (↑k : Int) < (↑(List.length s) : Int)) ∧ condP (!decide ((↑(UInt8.toNat (List.getD s (Int.toNat (↑k : Int)) (0 : UInt8))) : Int) = (45 : Int))) (((0 : Int) ≤ (↑k : Int) ∧ (↑k : Int) < (↑(List.length s) : Int)) ∧ condP (!decide ((↑(UInt8.toNat (List.getD s (Int.toNat (↑k : Int)) (0 : UInt8))) : Int) = (46 : Int))) (R .ret (St.mk [(2, .bool false)] [] 0 [])) (inR .i64 ((↑k : Int) + (1 : Int)) ∧ ∃ (i' : Nat), some (St.mk [(0, .str s), (6, .int .i64 (↑(List.length s) : Int)), (7, .int .i64 ((↑k : Int) + (1 : Int)))] [] 0 []) = some (St.mk [(0, .str s), (6, .int .i64 (↑(List.length s) : Int)), (7, .int .i64 (↑i' : Int))] [] 0 []) ∧ P i')) (inR .i64 ((↑k : Int) + (1 : Int)) ∧ ∃ (i' : Nat), some (St.mk [(0, .str s), (6, .int .i64 (↑(List.length s) : Int)), (7, .int .i64 ((↑k : Int) + (1 : Int)))] [] 0 []) = some (St.mk [(0, .str s), (6, .int .i64 (↑(List.length s) : Int)), (7, .int .i64 (↑i' : Int))] [] 0 []) ∧ P i'))))) (R (.exit 0) (St.mk [(0, .str s)] [] 0 []))) := by kernel_rfl
theorem nf_cdR (s : List UInt8) (R : AV → List (Nat × AObj) → Prop) : wpFn te [] [(5, L_checkDigitR s)] 0 Tryd.f30 [.str s] [] R = (condP (!decide ((↑(List.length s) : Int) = (7 : Int))) (condP (!decide ((↑(List.length s) : Int) = (12 : Int))) (R (.tuple [.int .i64 0, .bool false]) []) (some (St.mk [(0, .str s), (4, .int .i64 0), (16, .int .i64 (↑(List.length s) : Int)), (17, .int .i64 0)] [] 0 []) = some (St.mk [(0, .str s), (4, .int .i64 (cdSum s 0)), (16, .int .i64 (↑(List.length s) : Int)), (17, .int .i64 (↑0 : Int))] [] 0 []) ∧ List.length s ≤ 12 ∧ condP (List.all s isDig) ((10 : Int) ≠ (0 : Int) ∧ inR .i64 ((10 : Int) - Int.tmod (cdSum s (List.length s)) (10 : Int)) ∧ (10 : Int) ≠ (0 : Int) ∧ R (.tuple [.int .i64 (Int.tmod ((10 : Int) - Int.tmod (cdSum s (List.length s)) (10 : Int)) (10 : Int)), .bool true]) []) (R (.tuple [.int .i64 0, .bool false]) []))) (some (St.mk [(0, .str s), (4, .int .i64 0), (16, .int .i64 (↑(List.length s) : Int)), (17, .int .i64 0)] [] 0 []) = some (St.mk [(0, .str s), (4, .int .i64 (cdSum s 0)), (16, .int .i64 (↑(List.length s) : Int)), (17, .int .i64 (↑0 : Int))] [] 0 []) ∧ List.length s ≤ 12 ∧ condP (List.all s isDig) ((10 : Int) ≠ (0 : Int) ∧ inR .i64 ((10 : Int) - Int.tmod (cdSum s (List.length s)) (10 : Int)) ∧ (10 : Int) ≠ (0 : Int) ∧ R (.tuple [.int .i64 (Int.tmod ((10 : Int) - Int.tmod (cdSum s (List.length s)) (10 : Int)) (10 : Int)), .bool true]) []) (R (.tuple [.int .i64 0, .bool false]) []))) := by kernel_rfl
theorem nf_cdR_round (s : List UInt8) (k : Nat) (P : Nat → Prop) (R : Exit → St → Prop) : roundP ⟨te, [], [], 0, 50, 0⟩ (loopB Tryd.f30 5) [0, 4, 16, 17] [4] [2, 3] (S_cdrState s) P R (S_cdrState s k) = (condP (decide ((↑k : Int) < (↑(List.length s) : Int))) (((0 : Int) ≤ (↑k : Int) ∧ (↑k : Int) < (↑(List.length s) : Int)) ∧ condP (decide ((↑(UInt8.toNat (List.getD s (Int.toNat (↑k : Int)) (0 : UInt8))) : Int) < (48 : Int))) (R .ret (St.mk [(2, .int .i64 0), (3, .bool false)] [] 0 [])) (((0 : Int) ≤ (↑k : Int) ∧ (↑k : Int) < (↑(List.length s) : Int)) ∧ condP (decide ((57 : Int) < (↑(UInt8.toNat (List.getD s (Int.toNat (↑k : Int)) (0 : UInt8))) : Int))) (R .ret (St.mk [(2, .int .i64 0), (3, .bool false)] [] 0 [])) (inR .i64 ((↑(List.length s) : Int) - (↑k : Int)) ∧ (2 : Int) ≠ (0 : Int) ∧ condP (decide (Int.tmod ((↑(List.length s) : Int) - (↑k : Int)) (2 : Int) = (1 : Int))) (((0 : Int) ≤ (↑k : Int) ∧ (↑k : Int) < (↑(List.length s) : Int)) ∧ inR .i64 (((↑(UInt8.toNat (List.getD s (Int.toNat (↑k : Int)) (0 : UInt8))) : Int) - (48 : Int)) % (256 : Int)) ∧ inR .i64 ((3 : Int) * (((↑(UInt8.toNat (List.getD s (Int.toNat (↑k : Int)) (0 : UInt8))) : Int) - (48 : Int)) % (256 : Int))) ∧ inR .i64 (cdSum s k + (3 : Int) * (((↑(UInt8.toNat (List.getD s (Int.toNat (↑k : Int)) (0 : UInt8))) : Int) - (48 : Int)) % (256 : Int))) ∧ inR .i64 ((↑k : Int) + (1 : Int)) ∧ ∃ (i' : Nat), some (St.mk [(0, .str s), (4, .int .i64 (cdSum s k + (3 : Int) * (((↑(UInt8.toNat (List.getD s (Int.toNat (↑k : Int)) (0 : UInt8))) : Int) - (48 : Int)) % (256 : Int)))), (16, .int .i64 (↑(List.length s) : Int)), (17, .int .i64 ((↑k : Int) + (1 : Int)))] [] 0 []) = some (St.mk [(0, .str s), (4, .int .i64 (cdSum s i')), (16, .int .i64 (↑(List.length s) : Int)), (17, .int .i64 (↑i' : Int))] [] 0 []) ∧ P i') (((0 : Int) ≤ (↑k : Int) ∧ (↑k : Int) < (↑(List.length s) : Int)) ∧ inR .i64 (((↑(UInt8.toNat (List.getD s (Int.toNat (↑k : Int)) (0 : UInt8))) : Int) - (48 : Int)) % (256 : Int)) ∧ inR .i64 ((1 : Int) * (((↑(UInt8.toNat (List.getD s (Int.toNat (↑k : Int)) (0 : UInt8))) : Int) - (48 : Int)) % (256 : Int))) ∧ inR .i64 (cdSum s k + (1 : Int) * (((↑(UInt8.toNat (List.getD s (Int.toNat (↑k : Int)) (0 : UInt8))) : Int) - (48 : Int)) % (256 : Int))) ∧ inR .i64 ((↑k : Int) + (1 : Int)) ∧ ∃ (i' : Nat), some (St.mk [(0, .str s), (4, .int .i64 (cdSum s k + (1 : Int) * (((↑(UInt8.toNat (List.getD s (Int.toNat (↑k : Int)) (0 : UInt8))) : Int) - (48 : Int)) % (256 : Int)))), (16, .int .i64 (↑(List.length s) : Int)), (17, .int .i64 ((↑k : Int) + (1 : Int)))] [] 0 []) = some (St.mk [(0, .str s), (4, .int .i64 (cdSum s i')), (16, .int .i64 (↑(List.length s) : Int)), (17, .int .i64 (↑i' : Int))] [] 0 []) ∧ P i')))) (R (.exit 0) (St.mk [(4, .int .i64 (cdSum s k))] [] 0 []))) := by kernel_rfl
theorem nf_validIDR (s : List UInt8) (R : AV → List (Nat × AObj) → Prop) : wpFn te [(30, .det S_checkDigit)] [] 0 Tryd.f25 [.str s] [] R = (condP (!decide ((↑(List.length s) : Int) = (8 : Int))) (condP (!decide ((↑(List.length s) : Int) = (13 : Int))) (R (.bool false) []) (inR .i64 ((↑(List.length s) : Int) - (1 : Int)) ∧ ((0 : Int) ≤ (↑(List.length s) : Int) - (1 : Int) ∧ (↑(List.length s) : Int) - (1 : Int) ≤ (↑(List.length s) : Int)) ∧ True ∧ condP (Prod.snd (cdF (List.take (Int.toNat ((↑(List.length s) : Int) - (1 : Int))) s))) (inR .i64 ((↑(List.length s) : Int) - (1 : Int)) ∧ ((0 : Int) ≤ (↑(List.length s) : Int) - (1 : Int) ∧ (↑(List.length s) : Int) - (1 : Int) < (↑(List.length s) : Int)) ∧ inR .i64 ((48 : Int) + Prod.fst (cdF (List.take (Int.toNat ((↑(List.length s) : Int) - (1 : Int))) s))) ∧ inR .u8 ((48 : Int) + Prod.fst (cdF (List.take (Int.toNat ((↑(List.length s) : Int) - (1 : Int))) s))) ∧ R (.bool (decide ((↑(UInt8.toNat (List.getD s (Int.toNat ((↑(List.length s) : Int) - (1 : Int))) (0 : UInt8))) : Int) = (48 : Int) + Prod.fst (cdF (List.take (Int.toNat ((↑(List.length s) : Int) - (1 : Int))) s))))) []) (R (.bool false) []))) (inR .i64 ((↑(List.length s) : Int) - (1 : Int)) ∧ ((0 : Int) ≤ (↑(List.length s) : Int) - (1 : Int) ∧ (↑(List.length s) : Int) - (1 : Int) ≤ (↑(List.length s) : Int)) ∧ True ∧ condP (Prod.snd (cdF (List.take (Int.toNat ((↑(List.length s) : Int) - (1 : Int))) s))) (inR .i64 ((↑(List.length s) : Int) - (1 : Int)) ∧ ((0 : Int) ≤ (↑(List.length s) : Int) - (1 : Int) ∧ (↑(List.length s) : Int) - (1 : Int) < (↑(List.length s) : Int)) ∧ inR .i64 ((48 : Int) + Prod.fst (cdF (List.take (Int.toNat ((↑(List.length s) : Int) - (1 : Int))) s))) ∧ inR .u8 ((48 : Int) + Prod.fst (cdF (List.take (Int.toNat ((↑(List.length s) : Int) - (1 : Int))) s))) ∧ R (.bool (decide ((↑(UInt8.toNat (List.getD s (Int.toNat ((↑(List.length s) : Int) - (1 : Int))) (0 : UInt8))) : Int) = (48 : Int) + Prod.fst (cdF (List.take (Int.toNat ((↑(List.length s) : Int) - (1 : Int))) s))))) []) (R (.bool false) []))) := by kernel_rfl

variable {C : Ctx}

theorem nameR_loop (hP : C.P = Tryd.prog) (s : List UInt8) (hm : s.length ≤ 9223372036854775806) : LoopOK C 0 59 (loopC Tryd.f27 2) (L_nameR s) := by
  rintro st Q ⟨h0, hQ1, hQ2⟩
  refine LoopOK.mk (prg hP) [] 0 .nil [0, 6, 7] [0] [2] (S_nrState s) (fun k => k ≤ s.length ∧ ∀ j, j < k → OKat s j) (fun k => s.length - k) 0 ⟨Nat.zero_le _, fun j h => by omega⟩ h0 fun k ⟨hk, hall⟩ => ?_
  rw [nf_nameR_round]
  refine condP_dec (fun h => ?_) (fun h => ?_)
  · have hlt : k < s.length := by omega
    have hret : ¬ OKat s k → Q .ret ⟨[(2, .bool false)], [], 0, []⟩ := hQ2 k hlt
    have hgo : OKat s k → ∃ i' : Nat, some (St.mk [(0, .str s), (6, .int .i64 (s.length : Int)), (7, .int .i64 ((k : Int) + 1))] [] 0 []) = some (St.mk [(0, .str s), (6, .int .i64 (s.length : Int)), (7, .int .i64 (i' : Int))] [] 0 []) ∧ (i' ≤ s.length ∧ ∀ j, j < i' → OKat s j) ∧ s.length - i' < s.length - k := fun hok =>
      ⟨k + 1, rfl, ⟨by omega, fun j hj => by
        rcases Nat.lt_succ_iff_lt_or_eq.1 hj with hj | rfl
        · exact hall j hj
        · exact hok⟩, by omega⟩
    unfold OKat at hret hgo
    simp only [Int.toNat_natCast, inR]
    repeat' (first | (refine condP_dec (fun _ => ?_) (fun _ => ?_)) | (refine condP_ndec (fun _ => ?_) (fun _ => ?_)) | (refine And.intro (by omega) ?_) | fail)
    all_goals (first | exact hret (by omega) | exact hgo (by omega))
  · exact hQ1 fun j hj => hall j (by omega)

theorem nameR_ok (hP : C.P = Tryd.prog) : SpecOK C 27 S_nameR := by
  rintro args objs U Os vc h hvc
  unfold S_nameR at h
  split at h <;> simp only [Option.some.injEq, Prod.mk.injEq, reduceCtorEq] at h
  rename_i s
  obtain ⟨rfl, rfl, rfl⟩ := h
  refine SpecOK.wpL (prg hP) [] [(2, L_nameR s)] 0 .nil (hP ▸ Tryd.func27) rfl rfl rfl [(loopC Tryd.f27 2, L_nameR s)] (by kernel_rfl) ⟨nameR_loop hP s hvc, trivial⟩ ?_
  rw [nf_nameR]
  refine ⟨rfl, fun hall => condP_dec (fun h1 => ⟨congrArg AV.bool ?_, rfl⟩) (fun h1 => ⟨congrArg AV.bool ?_, rfl⟩), fun k hk hno => ⟨congrArg AV.bool ?_, rfl⟩⟩
  · by_cases h2 : s.length ≤ 24
    · rw [(nameF_iff s).2 ⟨⟨by omega, h2⟩, hall⟩]; exact decide_eq_true (by omega)
    · rw [decide_eq_false (by omega)]
      cases hn : nameF s with
      | false => rfl
      | true => exact absurd ((nameF_iff s).1 hn).1.2 h2
  · cases hn : nameF s with
    | false => rfl
    | true => exact absurd ((nameF_iff s).1 hn).1.1 (by omega)
  · cases hn : nameF s with
    | false => rfl
    | true => exact absurd (((nameF_iff s).1 hn).2 k hk) hno

theorem cdR_loop (hP : C.P = Tryd.prog) (s : List UInt8) : LoopOK C 0 50 (loopC Tryd.f30 5) (L_checkDigitR s) := by
  rintro st Q ⟨h0, hlen, hQ⟩
  have hQ := condP_elim hQ
  refine LoopOK.mk (prg hP) [] 0 .nil [0, 4, 16, 17] [4] [2, 3] (S_cdrState s) (fun k => k ≤ s.length ∧ ∀ j, j < k → 48 ≤ (s.getD j 0).toNat ∧ (s.getD j 0).toNat ≤ 57) (fun k => s.length - k) 0 ⟨Nat.zero_le _, fun j h => by omega⟩ h0 fun k ⟨hk, hall⟩ => ?_
  rw [nf_cdR_round]
  have hb := cdSum_boundk k hk hall
  refine condP_dec (fun h => ?_) (fun h => ?_)
  · have hlt : k < s.length := by omega
    have hret : ¬ (48 ≤ (s.getD k 0).toNat ∧ (s.getD k 0).toNat ≤ 57) → Q .ret ⟨[(2, .int .i64 0), (3, .bool false)], [], 0, []⟩ := fun hno => hQ.2 (by
      cases ha : s.all isDig with
      | false => rfl
      | true => exact absurd (isDig_at ha k hlt) hno)
    have e : Int.tmod (↑s.length - ↑k) 2 = (↑s.length - ↑k) % 2 := Int.tmod_eq_emod_of_nonneg (by omega)
    have hs : cdSum s (k + 1) = cdSum s k + (1 + 2 * ((↑s.length - ↑k) % 2)) * (↑(s.getD k 0).toNat - 48) := rfl
    have hgo : (48 ≤ (s.getD k 0).toNat ∧ (s.getD k 0).toNat ≤ 57) → (k + 1 ≤ s.length ∧ ∀ j, j < k + 1 → 48 ≤ (s.getD j 0).toNat ∧ (s.getD j 0).toNat ≤ 57) ∧ s.length - (k + 1) < s.length - k := fun hok =>
      ⟨⟨by omega, fun j hj => by
        rcases Nat.lt_succ_iff_lt_or_eq.1 hj with hj | rfl
        · exact hall j hj
        · exact hok⟩, by omega⟩
    simp only [Int.toNat_natCast, inR, e]
    refine ⟨by omega, condP_dec (fun h1 => hret (by omega)) (fun h1 => ⟨by omega, condP_dec (fun h2 => hret (by omega)) (fun h2 => ⟨by omega, by omega, ?_⟩)⟩)⟩
    have hgo := hgo (by omega)
    have e3 : ((s.getD k 0).toNat - 48 : Int) % 256 = (s.getD k 0).toNat - 48 := by omega
    rw [e3]
    refine condP_dec (fun h3 => ?_) (fun h3 => ?_)
    · rw [h3] at hs
      exact ⟨by omega, by omega, by omega, by omega, by omega, k + 1, by rw [hs]; rfl, hgo⟩
    · have h3 : (↑s.length - ↑k : Int) % 2 = 0 := by omega
      rw [h3] at hs
      exact ⟨by omega, by omega, by omega, by omega, by omega, k + 1, by rw [hs]; rfl, hgo⟩
  · have hks : k = s.length := by omega
    rw [hks]
    exact hQ.1 (all_isDig fun j hj => hall j (by omega))

theorem cdR_ok (hP : C.P = Tryd.prog) : SpecOK C 30 S_checkDigit := by
  rintro args objs U Os vc h hvc
  unfold S_checkDigit at h
  split at h <;> simp only [Option.some.injEq, Prod.mk.injEq, reduceCtorEq] at h
  rename_i s
  obtain ⟨rfl, rfl, rfl⟩ := h
  refine SpecOK.wpL (prg hP) [] [(5, L_checkDigitR s)] 0 .nil (hP ▸ Tryd.func30) rfl rfl rfl [(loopC Tryd.f30 5, L_checkDigitR s)] (by kernel_rfl) ⟨cdR_loop hP s, trivial⟩ ?_
  rw [nf_cdR]
  have main : (s.length = 7 ∨ s.length = 12) → condP (s.all isDig) ((10 : Int) ≠ 0 ∧ inR .i64 (10 - Int.tmod (cdSum s s.length) 10) ∧ (10 : Int) ≠ 0 ∧ AV.tuple [.int .i64 (Int.tmod (10 - Int.tmod (cdSum s s.length) 10) 10), .bool true] = .tuple [.int .i64 (cdF s).1, .bool (cdF s).2] ∧ ([] : List (Nat × AObj)) = [])
      (AV.tuple [.int .i64 0, .bool false] = .tuple [.int .i64 (cdF s).1, .bool (cdF s).2] ∧ ([] : List (Nat × AObj)) = []) := by
    intro hl
    have hd : digitsF s 7 12 = s.all isDig := by
      unfold digitsF
      rcases hl with h | h <;> simp [h]
    refine condP_intro (fun ha => ?_) (fun ha => ?_)
    · have hb := cdSum_bound ha s.length (Nat.le_refl _)
      have e : Int.tmod (cdSum s s.length) 10 = cdSum s s.length % 10 := Int.tmod_eq_emod_of_nonneg (by omega)
      rw [e, Int.tmod_eq_emod_of_nonneg (by omega)]
      refine ⟨by omega, by simp only [inR]; omega, by omega, ?_, rfl⟩
      simp [cdF, hd, ha]
    · refine ⟨?_, rfl⟩
      simp [cdF, hd, ha]
  refine condP_ndec (fun h1 => condP_ndec (fun h2 => ⟨?_, rfl⟩) (fun h2 => ⟨rfl, by omega, main (by omega)⟩)) (fun h1 => ⟨rfl, by omega, main (by omega)⟩)
  have hd : digitsF s 7 12 = false := by unfold digitsF; rw [decide_eq_false h1, decide_eq_false h2]; rfl
  simp [cdF, hd]

theorem validIDR_ok (hP : C.P = Tryd.prog) : SpecOK C 25 S_validID := by
  rintro args objs U Os vc h hvc
  unfold S_validID at h
  split at h <;> simp only [Option.some.injEq, Prod.mk.injEq, reduceCtorEq] at h
  rename_i s
  obtain ⟨rfl, rfl, rfl⟩ := h
  refine SpecOK.wp0 (prg hP) [(30, .det S_checkDigit)] 0 (.cons (cdR_ok hP) .nil) (hP ▸ Tryd.func25) rfl rfl rfl ?_
  rw [nf_validIDR]
  have e1 : ∀ h : s.length = 8 ∨ s.length = 13, (↑s.length - 1 : Int).toNat = s.length - 1 := by intro h; omega
  have hcd := cdF_bound (s.take (s.length - 1))
  have last : (s.length = 8 ∨ s.length = 13) → (s.all isDig = ((cdF (s.take (s.length - 1))).2 && isDig (s.getD (s.length - 1) 0))) := by
    intro hl
    have h2 : (cdF (s.take (s.length - 1))).2 = (s.take (s.length - 1)).all isDig := by
      have hd : digitsF (s.take (s.length - 1)) 7 12 = (s.take (s.length - 1)).all isDig := by
        unfold digitsF
        have : (s.take (s.length - 1)).length = s.length - 1 := by simp
        rcases hl with h | h <;> simp [this, h]
      unfold cdF
      rw [hd]
      cases (s.take (s.length - 1)).all isDig <;> rfl
    have hs : s = s.take (s.length - 1) ++ [s.getD (s.length - 1) 0] := by
      have hlt : s.length - 1 < s.length := by omega
      have := (List.take_append_drop (s.length - 1) s).symm
      rw [List.drop_eq_getElem_cons hlt] at this
      have e : s.getD (s.length - 1) 0 = s[s.length - 1] := by simp [List.getD, hlt]
      rw [e]
      have hd : List.drop (s.length - 1 + 1) s = [] := List.drop_eq_nil_of_le (by omega)
      rw [hd] at this
      exact this
    rw [h2]
    conv => lhs; rw [hs]
    simp
  have hv : (s.length = 8 ∨ s.length = 13) → validIDF s = ((cdF (s.take (s.length - 1))).2 && decide ((s.getD (s.length - 1) 0).toNat = 48 + (cdF (s.take (s.length - 1))).1)) := by
    intro hl
    have hd : digitsF s 8 13 = s.all isDig := by
      unfold digitsF
      rcases hl with h | h <;> simp [h]
    unfold validIDF
    rw [hd, last hl]
    cases hc : (cdF (s.take (s.length - 1))).2 with
    | false => rfl
    | true =>
      simp only [Bool.true_and]
      cases hi : isDig (s.getD (s.length - 1) 0) with
      | true =>
        refine decide_eq_decide.2 ?_
        omega
      | false =>
        refine (decide_eq_false fun he => ?_).symm
        simp only [isDig, Bool.and_eq_false_imp, decide_eq_true_eq, decide_eq_false_iff_not] at hi
        omega
  have main : (s.length = 8 ∨ s.length = 13) → condP (cdF (s.take (s.length - 1))).2 (inR .i64 (↑s.length - 1) ∧ (0 ≤ (↑s.length - 1 : Int) ∧ (↑s.length - 1 : Int) < ↑s.length) ∧ inR .i64 (48 + (cdF (s.take (s.length - 1))).1) ∧ inR .u8 (48 + (cdF (s.take (s.length - 1))).1) ∧
      AV.bool (decide ((↑(s.getD (s.length - 1) 0).toNat : Int) = 48 + (cdF (s.take (s.length - 1))).1)) = .bool (validIDF s) ∧ ([] : List (Nat × AObj)) = []) (AV.bool false = .bool (validIDF s) ∧ ([] : List (Nat × AObj)) = []) := by
    intro hl
    rw [hv hl]
    refine condP_intro (fun hc => ?_) (fun hc => ?_)
    · simp only [inR, hc, Bool.true_and]
      exact ⟨by omega, by omega, by omega, by omega, by simp⟩
    · simp [hc]
  refine condP_ndec (fun h1 => condP_ndec (fun h2 => ⟨?_, rfl⟩) (fun h2 => ?_)) (fun h1 => ?_)
  · have hd : digitsF s 8 13 = false := by unfold digitsF; rw [decide_eq_false h1, decide_eq_false h2]; rfl
    simp [validIDF, hd]
  · have hl : s.length = 8 ∨ s.length = 13 := by omega
    rw [e1 hl]
    exact ⟨by simp only [inR]; omega, by omega, trivial, main hl⟩
  · have hl : s.length = 8 ∨ s.length = 13 := by omega
    rw [e1 hl]
    exact ⟨by simp only [inR]; omega, by omega, trivial, main hl⟩

end Go.Eng
/- The tape. -/
namespace Go.Eng
open Go.Proofs Go.RowKit
variable {C : Ctx}
set_option maxRecDepth 20000
theorem nf_fold (n k : Int) (R : AV → List (Nat × AObj) → Prop) : wpFn te [] [] 0 Tryd.f11 [.int .i64 n, .int .i64 k] [] R = (True ∧ True ∧ IntKind.wrap IntKind.u64 (max k (1 : Int)) ≠ (0 : Int) ∧ inR .i64 (Int.tmod (IntKind.wrap IntKind.u64 n) (IntKind.wrap IntKind.u64 (max k (1 : Int)))) ∧ R (.int .i64 (Int.tmod (IntKind.wrap IntKind.u64 n) (IntKind.wrap IntKind.u64 (max k (1 : Int))))) []) := by kernel_rfl
theorem nf_next (n : Nat) (v : Nat → Int) (a k : Int) (R : AV → List (Nat × AObj) → Prop) : wpFn te [] [] 0 Tryd.f15 [.ptr 0 0, .int .i64 k] [.cells [.view 1 n (intRow v), .int .i64 a] 31] R = (condP (decide (a < (↑n : Int))) (((0 : Int) ≤ a ∧ a < (↑n : Int) ∧ 1 = 1) ∧ inR .i64 (a + (1 : Int)) ∧ True ∧ True ∧ IntKind.wrap IntKind.u64 (max k (1 : Int)) ≠ (0 : Int) ∧ inR .i64 (Int.tmod (IntKind.wrap IntKind.u64 (v (Int.toNat a))) (IntKind.wrap IntKind.u64 (max k (1 : Int)))) ∧ R (.int .i64 (Int.tmod (IntKind.wrap IntKind.u64 (v (Int.toNat a))) (IntKind.wrap IntKind.u64 (max k (1 : Int))))) [(0, .cells [.view 1 n (intRow v), .int .i64 (a + (1 : Int))] 31)]) (inR .i64 (a + (1 : Int)) ∧ True ∧ True ∧ IntKind.wrap IntKind.u64 (max k (1 : Int)) ≠ (0 : Int) ∧ inR .i64 (Int.tmod (IntKind.wrap IntKind.u64 0) (IntKind.wrap IntKind.u64 (max k (1 : Int)))) ∧ R (.int .i64 (Int.tmod (IntKind.wrap IntKind.u64 0) (IntKind.wrap IntKind.u64 (max k (1 : Int))))) [(0, .cells [.view 1 n (intRow v), .int .i64 (a + (1 : Int))] 31)])) := by kernel_rfl

theorem wrap_u64 (n : Int) : IntKind.wrap .u64 n = n % 18446744073709551616 := by
  show n % (2 : Int) ^ 64 = _
  rfl
theorem next_val {k : Int} (h : 1 ≤ k ∧ k ≤ 1000000) (x : Int) : IntKind.wrap .u64 (max k 1) ≠ 0 ∧ Int.tmod (IntKind.wrap .u64 x) (IntKind.wrap .u64 (max k 1)) = foldV x k := by
  have e : IntKind.wrap .u64 (max k 1) = k := by
    rw [wrap_u64, Int.max_eq_left h.1]
    omega
  rw [e, wrap_u64]
  have hx : 0 ≤ x % 18446744073709551616 := by omega
  rw [Int.tmod_eq_emod_of_nonneg hx]
  exact ⟨by omega, rfl⟩

theorem fold_ok (hP : C.P = Tryd.prog) : SpecOK C 11 S_fold := by
  rintro args objs U Os vc h hvc
  unfold S_fold at h
  split at h <;> simp only [Option.some.injEq, Prod.mk.injEq, reduceCtorEq] at h
  rename_i n k
  obtain ⟨rfl, rfl, rfl⟩ := h
  refine SpecOK.wp0 (prg hP) [] 0 .nil (hP ▸ Tryd.func11) rfl rfl rfl ?_
  rw [nf_fold]
  obtain ⟨h1, h2⟩ := next_val hvc n
  have h3 := foldV_range hvc.1 n
  rw [h2]
  exact ⟨trivial, trivial, h1, by simp only [inR]; omega, rfl, rfl⟩

theorem next_ok (hP : C.P = Tryd.prog) : SpecOK C 15 S_next := by
  rintro args objs U Os vc h hvc
  unfold S_next at h
  split at h <;> simp only [Option.some.injEq, Prod.mk.injEq, reduceCtorEq] at h
  rename_i k sz n f a t
  obtain ⟨rfl, rfl, rfl⟩ := h
  obtain ⟨rfl, rfl, hf, hk, ha⟩ := hvc
  rw [hf]
  have hv : vInt (intRow (vInt f)) = vInt f := rfl
  rw [hv]
  generalize vInt f = v at *
  refine SpecOK.wp0 (prg hP) [] 0 .nil (hP ▸ Tryd.func15) rfl rfl rfl ?_
  rw [nf_next]
  unfold nextV
  refine condP_dec (fun h => ?_) (fun h => ?_)
  · obtain ⟨h1, h2⟩ := next_val hk (v a.toNat)
    have h3 := foldV_range hk.1 (v a.toNat)
    rw [h2, decide_eq_true h]
    exact ⟨⟨by omega, by omega, rfl⟩, by simp only [inR]; omega, trivial, trivial, h1, by simp only [inR]; omega, rfl, rfl⟩
  · obtain ⟨h1, h2⟩ := next_val hk 0
    have h3 := foldV_range hk.1 0
    rw [h2, decide_eq_false h]
    exact ⟨by simp only [inR]; omega, trivial, trivial, h1, by simp only [inR]; omega, rfl, rfl⟩

theorem nf_id_round (V j : Nat) (P : Nat → Prop) (R : Exit → St → Prop) : roundP ⟨te, [], [], 0, 39, 0⟩ (loopB Tryd.f16 4) [3, 4, 5] [4] [] (S_idl V) P R (S_idl V j) = (condP (decide ((0 : Int) ≤ (6 : Int) - (↑j : Int))) ((10 : Int) ≠ (0 : Int) ∧ inR .i64 ((48 : Int) + Int.tmod (↑(pw V j) : Int) (10 : Int)) ∧ inR .u8 ((48 : Int) + Int.tmod (↑(pw V j) : Int) (10 : Int)) ∧ ((0 : Int) ≤ (6 : Int) - (↑j : Int) ∧ (6 : Int) - (↑j : Int) < (↑7 : Int)) ∧ (List.length [AV.int .u8 ((48 : Int) + Int.tmod (↑(pw V j) : Int) (10 : Int))] = 1 ∧ Int.toNat ((6 : Int) - (↑j : Int)) < 7 ∧ 1 = 1) ∧ ((10 : Int) ≠ (0 : Int) ∧ inR .i64 (Int.tdiv (↑(pw V j) : Int) (10 : Int))) ∧ inR .i64 ((6 : Int) - (↑j : Int) - (1 : Int)) ∧ ∃ (i' : Nat), (TEq [(3, .int .i64 (Int.tdiv (↑(pw V j) : Int) (10 : Int))), (4, .own 0 7), (5, .int .i64 ((6 : Int) - (↑j : Int) - (1 : Int)))] [(3, .int .i64 (↑(pw V i') : Int)), (4, .own 0 7), (5, .int .i64 ((6 : Int) - (↑i' : Int)))] ∧ RowsEq [(0, .row 5 1 7 (fun (k : Nat) => if k = Int.toNat ((6 : Int) - (↑j : Int)) then [.int .u8 ((48 : Int) + Int.tmod (↑(pw V j) : Int) (10 : Int))] else [.int .u8 (bif decide (7 ≤ k + j) then dgI V k else (0 : Int))]) false)] [(0, .row 5 1 7 (fun (k : Nat) => [.int .u8 (bif decide (7 ≤ k + i') then dgI V k else (0 : Int))]) false)]) ∧ P i') ((∀ (i : Nat), i < 7 → true = true) ∧ ∃ (O' : List (Nat × AObj)), RowsEq [(0, .row 5 1 7 (fun (k : Nat) => [.int .u8 (bif decide (7 ≤ k + j) then dgI V k else (0 : Int))]) false)] O' ∧ R (.exit 0) (St.mk [(4, .own 0 7)] O' 1 []))) := by kernel_rfl
theorem nf_id (n : Int) (V : Nat) (R : AV → List (Nat × AObj) → Prop) : wpFn te [(11, .det S_fold), (30, .det S_checkDigit)] [(4, L_id V)] 2 Tryd.f16 [.int .i64 n] [] R = (((1 : Int) ≤ (1000000 : Int) ∧ (1000000 : Int) ≤ (1000000 : Int)) ∧ inR .i64 ((1000000 : Int) + foldV n (1000000 : Int)) ∧ ((0 : Int) ≤ (7 : Int) ∧ (7 : Int) ≤ (7 : Int) ∧ (↑(TI.bytes (TI.mk (TypeDesc.int IntKind.u8) 1 1 (Value.int IntKind.u8 0) false)) : Int) * (7 : Int) ≤ (281474976710656 : Int) ∧ (7 : Int) ≤ (9223372036854775807 : Int)) ∧ (TEq [(3, .int .i64 ((1000000 : Int) + foldV n (1000000 : Int))), (4, .own 0 7), (5, .int .i64 6)] [(3, .int .i64 (↑(pw V 0) : Int)), (4, .own 0 7), (5, .int .i64 ((6 : Int) - (↑0 : Int)))] ∧ RowsEq [(0, .row 5 1 7 (fun (x : Nat) => [.int .u8 0]) false)] [(0, .row 5 1 7 (fun (k : Nat) => [.int .u8 (bif decide (7 ≤ k + 0) then dgI V k else (0 : Int))]) false)]) ∧ V < 2000000 ∧ ((7 ≤ 7 ∧ 1 = 1) ∧ ∀ (i : Nat), i < 7 → isU8 (idRow V i) = true) ∧ True ∧ ((7 ≤ 7 ∧ 1 = 1) ∧ ∀ (i : Nat), i < 7 → isU8 (idRow V i) = true) ∧ inR .i64 ((48 : Int) + Prod.fst (cdF (bytesA 7 (idRow V)))) ∧ inR .u8 ((48 : Int) + Prod.fst (cdF (bytesA 7 (idRow V)))) ∧ (1 ≤ 16777216 ∧ 1 = 1 ∧ 1 ≤ 9223372036854775807) ∧ ((1 ≤ 1 ∧ 1 = 1) ∧ ∀ (i : Nat), i < 1 → isU8 (chunkA (TI.sz (TI.mk (TypeDesc.int IntKind.u8) 1 1 (Value.int IntKind.u8 0) false)) (.int .u8 ((48 : Int) + Prod.fst (cdF (bytesA 7 (idRow V)))) :: List.append [] (List.flatten (List.replicate (nat_lit 0) [.int .u8 0]))) i) = true) ∧ List.length (bytesA 7 (idRow V)) + List.length (bytesA 1 (chunkA (TI.sz (TI.mk (TypeDesc.int IntKind.u8) 1 1 (Value.int IntKind.u8 0) false)) (.int .u8 ((48 : Int) + Prod.fst (cdF (bytesA 7 (idRow V)))) :: List.append [] (List.flatten (List.replicate (nat_lit 0) [.int .u8 0]))))) ≤ 9223372036854775807 ∧ R (.str (bytesA 7 (idRow V) ++ bytesA 1 (chunkA (TI.sz (TI.mk (TypeDesc.int IntKind.u8) 1 1 (Value.int IntKind.u8 0) false)) (.int .u8 ((48 : Int) + Prod.fst (cdF (bytesA 7 (idRow V)))) :: List.append [] (List.flatten (List.replicate (nat_lit 0) [.int .u8 0])))))) []) := by kernel_rfl

theorem pw_step (V j : Nat) : Int.tdiv (pw V j : Nat) 10 = (pw V (j + 1) : Nat) := by
  rw [Int.tdiv_eq_ediv_of_nonneg (Int.natCast_nonneg _)]
  unfold pw
  rw [Nat.pow_succ, ← Nat.div_div_eq_div_mul]
  rfl
theorem pw_le (V j : Nat) : pw V j ≤ V := Nat.div_le_self _ _
theorem id_loop (hP : C.P = Tryd.prog) (V : Nat) : LoopOK C 0 39 (loopC Tryd.f16 4) (L_id V) := by
  rintro st Q ⟨h0, hv, hQ⟩
  refine LoopOK.mk (prg hP) [] 0 .nil [3, 4, 5] [4] [] (S_idl V) (fun j => j ≤ 7) (fun j => 7 - j) 0 (by omega) h0 (fun j hj => ?_) (fun i => ⟨fun _ _ => rfl, trivial⟩)
  rw [nf_id_round]
  have hle := pw_le V j
  have ht : Int.tmod (pw V j : Nat) 10 = ((pw V j % 10 : Nat) : Int) := by
    rw [Int.tmod_eq_emod_of_nonneg (Int.natCast_nonneg _)]; rfl
  rw [ht, pw_step]
  have hle' := pw_le V (j + 1)
  have hm := Nat.mod_lt (pw V j) (show 0 < 10 by omega)
  refine condP_dec (fun h => ?_) (fun h => ⟨fun _ _ => rfl, _, ?_, hQ⟩)
  · refine ⟨by omega, by simp only [inR]; omega, by simp only [inR]; omega, ⟨h, by omega⟩, ⟨rfl, by omega, rfl⟩, ⟨by omega, by simp only [inR]; omega⟩, by simp only [inR]; omega, j + 1, ⟨?_, ⟨rfl, rfl, rfl, rfl, rfl, fun k hk => ?_⟩, trivial⟩, by omega, by omega⟩
    · rw [show (6 : Int) - (j : Int) - 1 = 6 - ((j + 1 : Nat) : Int) by omega]
      rfl
    · dsimp only
      split
      · rename_i e
        have e' : 6 - k = j := by omega
        rw [decide_eq_true (show 7 ≤ k + (j + 1) by omega)]
        unfold dgI
        rw [e']; rfl
      · rename_i e
        by_cases h7 : 7 ≤ k + j
        · rw [decide_eq_true h7, decide_eq_true (show 7 ≤ k + (j + 1) by omega)]
        · rw [decide_eq_false h7, decide_eq_false (show ¬ 7 ≤ k + (j + 1) by omega)]
  · have : j = 7 := by omega
    subst this
    refine ⟨⟨rfl, rfl, rfl, rfl, rfl, fun k hk => ?_⟩, trivial⟩
    dsimp only
    rw [decide_eq_true (show 7 ≤ k + 7 by omega)]
    rfl

theorem id_ok (hP : C.P = Tryd.prog) : SpecOK C 16 S_id := by
  rintro args objs U Os vc h hvc
  unfold S_id at h
  split at h <;> simp only [Option.some.injEq, Prod.mk.injEq, reduceCtorEq] at h
  rename_i n
  obtain ⟨rfl, rfl, rfl⟩ := h
  refine SpecOK.wpL (prg hP) [(11, .det S_fold), (30, .det S_checkDigit)] [(4, L_id (idV n))] 2 (.cons (fold_ok hP) (.cons (cdR_ok hP) .nil)) (hP ▸ Tryd.func16) rfl rfl rfl [(loopC Tryd.f16 4, L_id (idV n))] (by kernel_rfl) ⟨id_loop hP _, trivial⟩ ?_
  rw [nf_id]
  have hf := foldV_range (show (1 : Int) ≤ 1000000 by omega) n
  have hV : ((idV n : Nat) : Int) = 1000000 + foldV n 1000000 := by unfold idV; omega
  have hl := id7_len n
  have hc := cdF_range (id7 n)
  refine ⟨⟨by omega, by omega⟩, by simp only [inR]; omega, ⟨by omega, by omega, by decide, by omega⟩, ⟨?_, ⟨rfl, rfl, rfl, rfl, rfl, fun k hk => ?_⟩, trivial⟩, by omega, ⟨⟨by omega, rfl⟩, fun _ _ => rfl⟩, trivial, ⟨⟨by omega, rfl⟩, fun _ _ => rfl⟩, ?_, ?_, ⟨by omega, rfl, by omega⟩, ⟨⟨by omega, rfl⟩, fun i hi => ?_⟩, ?_, rfl, rfl⟩
  · rw [← hV]
    show TEq [(3, .int .i64 ((idV n : Nat) : Int)), (4, .own 0 7), (5, .int .i64 6)] [(3, .int .i64 ((idV n / 1 : Nat) : Int)), (4, .own 0 7), (5, .int .i64 6)]
    rw [Nat.div_one]; rfl
  · dsimp only
    rw [decide_eq_false (show ¬ 7 ≤ k + 0 by omega)]; rfl
  · show inR .i64 (48 + (cdF (id7 n)).1)
    simp only [inR]; omega
  · show inR .u8 (48 + (cdF (id7 n)).1)
    simp only [inR]; omega
  · obtain rfl : i = 0 := by omega
    rfl
  · show (id7 n).length + _ ≤ _
    rw [hl]; simp [bytesA]

end Go.Eng
/- Products from a tape. -/
namespace Go.Eng
open Go.Proofs Go.RowKit
variable {C : Ctx}
set_option maxRecDepth 20000
theorem nf_item (n : Nat) (v : Nat → Int) (a k : Int) (R : AV → List (Nat × AObj) → Prop) : wpFn te [(16, .det S_id), (15, .det S_next)] [] 0 Tryd.f12 [.ptr 0 0, .int .i64 k] [.cells [.view 1 n (intRow v), .int .i64 a] 31] R = (True ∧ (2 ≤ 16777216 ∧ 1 = 1 ∧ 2 ≤ 9223372036854775807) ∧ (31 = 31 ∧ 1 = 1 ∧ intRow v = intRow (vInt (intRow v)) ∧ ((1 : Int) ≤ (2 : Int) ∧ (2 : Int) ≤ (1000000 : Int)) ∧ (0 : Int) ≤ a ∧ a ≤ (4611686018427387904 : Int)) ∧ ((0 : Int) ≤ nextV n (vInt (intRow v)) a (2 : Int) ∧ nextV n (vInt (intRow v)) a (2 : Int) < (↑2 : Int)) ∧ (Int.toNat (nextV n (vInt (intRow v)) a (2 : Int)) < 2 ∧ 1 = 1) ∧ (31 = 31 ∧ 1 = 1 ∧ intRow v = intRow (vInt (intRow v)) ∧ ((1 : Int) ≤ (4 : Int) ∧ (4 : Int) ≤ (1000000 : Int)) ∧ (0 : Int) ≤ a + (1 : Int) ∧ a + (1 : Int) ≤ (4611686018427387904 : Int)) ∧ inR .i64 ((50000 : Int) * nextV n (vInt (intRow v)) (a + (1 : Int)) (4 : Int)) ∧ inR .i64 ((400000 : Int) + (50000 : Int) * nextV n (vInt (intRow v)) (a + (1 : Int)) (4 : Int)) ∧ (4 ≤ 16777216 ∧ 1 = 1 ∧ 4 ≤ 9223372036854775807) ∧ (31 = 31 ∧ 1 = 1 ∧ intRow v = intRow (vInt (intRow v)) ∧ ((1 : Int) ≤ (4 : Int) ∧ (4 : Int) ≤ (1000000 : Int)) ∧ (0 : Int) ≤ a + (1 : Int) + (1 : Int) ∧ a + (1 : Int) + (1 : Int) ≤ (4611686018427387904 : Int)) ∧ ((0 : Int) ≤ nextV n (vInt (intRow v)) (a + (1 : Int) + (1 : Int)) (4 : Int) ∧ nextV n (vInt (intRow v)) (a + (1 : Int) + (1 : Int)) (4 : Int) < (↑4 : Int)) ∧ (Int.toNat (nextV n (vInt (intRow v)) (a + (1 : Int) + (1 : Int)) (4 : Int)) < 4 ∧ 1 = 1) ∧ (3 ≤ 16777216 ∧ 1 = 1 ∧ 3 ≤ 9223372036854775807) ∧ (31 = 31 ∧ 1 = 1 ∧ intRow v = intRow (vInt (intRow v)) ∧ ((1 : Int) ≤ (3 : Int) ∧ (3 : Int) ≤ (1000000 : Int)) ∧ (0 : Int) ≤ a + (1 : Int) + (1 : Int) + (1 : Int) ∧ a + (1 : Int) + (1 : Int) + (1 : Int) ≤ (4611686018427387904 : Int)) ∧ ((0 : Int) ≤ nextV n (vInt (intRow v)) (a + (1 : Int) + (1 : Int) + (1 : Int)) (3 : Int) ∧ nextV n (vInt (intRow v)) (a + (1 : Int) + (1 : Int) + (1 : Int)) (3 : Int) < (↑3 : Int)) ∧ (Int.toNat (nextV n (vInt (intRow v)) (a + (1 : Int) + (1 : Int) + (1 : Int)) (3 : Int)) < 3 ∧ 1 = 1) ∧ (4 ≤ 16777216 ∧ 2 = 2 ∧ 2 ≤ 9223372036854775807) ∧ (31 = 31 ∧ 1 = 1 ∧ intRow v = intRow (vInt (intRow v)) ∧ ((1 : Int) ≤ (2 : Int) ∧ (2 : Int) ≤ (1000000 : Int)) ∧ (0 : Int) ≤ a + (1 : Int) + (1 : Int) + (1 : Int) + (1 : Int) ∧ a + (1 : Int) + (1 : Int) + (1 : Int) + (1 : Int) ≤ (4611686018427387904 : Int)) ∧ condP (decide (nextV n (vInt (intRow v)) (a + (1 : Int) + (1 : Int) + (1 : Int) + (1 : Int)) (2 : Int) = (0 : Int))) (((0 : Int) ≤ (1 : Int) ∧ (1 : Int) < (↑2 : Int)) ∧ (1 < 2 ∧ 2 = 2) ∧ ((0 : Int) ≤ (0 : Int) ∧ (0 : Int) < (↑2 : Int)) ∧ (0 < 2 ∧ 2 = 2) ∧ ((0 : Int) ≤ (0 : Int) ∧ (0 : Int) < (↑2 : Int)) ∧ (List.length [AV.str [(99 : UInt8), 111, 108, 111, 117, 114], .str (List.getD [[(114 : UInt8), 101, 100], [(98 : UInt8), 108, 117, 101], [(103 : UInt8), 114, 101, 101, 110]] (Int.toNat (nextV n (vInt (intRow v)) (a + (1 : Int) + (1 : Int) + (1 : Int)) (3 : Int))) [])] = 2 ∧ 0 < 2 ∧ 2 = 2) ∧ ((0 : Int) ≤ (1 : Int) ∧ (1 : Int) < (↑2 : Int)) ∧ (List.length [AV.str [(112 : UInt8), 111, 119, 101, 114], .str (List.getD [[(49 : UInt8)], [(50 : UInt8)], [(50 : UInt8), 46, 53], [(52 : UInt8)]] (Int.toNat (nextV n (vInt (intRow v)) (a + (1 : Int) + (1 : Int)) (4 : Int))) [])] = 2 ∧ 1 < 2 ∧ 2 = 2) ∧ (True ∧ True) ∧ (∀ (i : Nat), i < 2 → nrefL ((fun (k : Nat) => if k = 1 then .str [(112 : UInt8), 111, 119, 101, 114] :: .str (List.getD [[(49 : UInt8)], [(50 : UInt8)], [(50 : UInt8), 46, 53], [(52 : UInt8)]] (Int.toNat (nextV n (vInt (intRow v)) (a + (1 : Int) + (1 : Int)) (4 : Int))) []) :: List.take (nat_lit 0) (List.append [] (List.flatten (List.replicate (nat_lit 0) [.str ([]), .str ([])]))) else (fun (k : Nat) => if k = 0 then .str [(99 : UInt8), 111, 108, 111, 117, 114] :: .str (List.getD [[(114 : UInt8), 101, 100], [(98 : UInt8), 108, 117, 101], [(103 : UInt8), 114, 101, 101, 110]] (Int.toNat (nextV n (vInt (intRow v)) (a + (1 : Int) + (1 : Int) + (1 : Int)) (3 : Int))) []) :: List.take (nat_lit 0) (.str [(99 : UInt8), 111, 108, 111, 117, 114] :: .str (List.getD [[(114 : UInt8), 101, 100], [(98 : UInt8), 108, 117, 101], [(103 : UInt8), 114, 101, 101, 110]] (Int.toNat (nextV n (vInt (intRow v)) (a + (1 : Int) + (1 : Int) + (1 : Int)) (3 : Int))) []) :: List.append [] (List.flatten (List.replicate (nat_lit 0) [.str ([]), .str ([])]))) else chunkA (TI.sz (TI.mk (TypeDesc.struct #[Field.mk "Name" (9 : TypeId) 0 false "" "" 0, Field.mk "Value" (9 : TypeId) 1 false "" "" 16]) 2 32 (Value.agg #[Value.string (ByteArray.mk #[]), Value.string (ByteArray.mk #[])]) true)) (.str [(112 : UInt8), 111, 119, 101, 114] :: .str (List.getD [[(49 : UInt8)], [(50 : UInt8)], [(50 : UInt8), 46, 53], [(52 : UInt8)]] (Int.toNat (nextV n (vInt (intRow v)) (a + (1 : Int) + (1 : Int)) (4 : Int))) []) :: .str [(99 : UInt8), 111, 108, 111, 117, 114] :: .str (List.getD [[(114 : UInt8), 101, 100], [(98 : UInt8), 108, 117, 101], [(103 : UInt8), 114, 101, 101, 110]] (Int.toNat (nextV n (vInt (intRow v)) (a + (1 : Int) + (1 : Int) + (1 : Int)) (3 : Int))) []) :: List.append [] (List.flatten (List.replicate (nat_lit 0) [.str ([]), .str ([])]))) k) k) i) = true) ∧ ∃ (O' : List (Nat × AObj)), RowsEq [(0, .cells [.view 1 n (intRow v), .int .i64 (a + (1 : Int) + (1 : Int) + (1 : Int) + (1 : Int) + (1 : Int))] 31), (1, .row 52 2 2 (fun (k : Nat) => if k = 1 then .str [(112 : UInt8), 111, 119, 101, 114] :: .str (List.getD [[(49 : UInt8)], [(50 : UInt8)], [(50 : UInt8), 46, 53], [(52 : UInt8)]] (Int.toNat (nextV n (vInt (intRow v)) (a + (1 : Int) + (1 : Int)) (4 : Int))) []) :: List.take (nat_lit 0) (List.append [] (List.flatten (List.replicate (nat_lit 0) [.str ([]), .str ([])]))) else if k = 0 then .str [(99 : UInt8), 111, 108, 111, 117, 114] :: .str (List.getD [[(114 : UInt8), 101, 100], [(98 : UInt8), 108, 117, 101], [(103 : UInt8), 114, 101, 101, 110]] (Int.toNat (nextV n (vInt (intRow v)) (a + (1 : Int) + (1 : Int) + (1 : Int)) (3 : Int))) []) :: List.take (nat_lit 0) (.str [(99 : UInt8), 111, 108, 111, 117, 114] :: .str (List.getD [[(114 : UInt8), 101, 100], [(98 : UInt8), 108, 117, 101], [(103 : UInt8), 114, 101, 101, 110]] (Int.toNat (nextV n (vInt (intRow v)) (a + (1 : Int) + (1 : Int) + (1 : Int)) (3 : Int))) []) :: List.append [] (List.flatten (List.replicate (nat_lit 0) [.str ([]), .str ([])]))) else chunkA (TI.sz (TI.mk (TypeDesc.struct #[Field.mk "Name" (9 : TypeId) 0 false "" "" 0, Field.mk "Value" (9 : TypeId) 1 false "" "" 16]) 2 32 (Value.agg #[Value.string (ByteArray.mk #[]), Value.string (ByteArray.mk #[])]) true)) (.str [(112 : UInt8), 111, 119, 101, 114] :: .str (List.getD [[(49 : UInt8)], [(50 : UInt8)], [(50 : UInt8), 46, 53], [(52 : UInt8)]] (Int.toNat (nextV n (vInt (intRow v)) (a + (1 : Int) + (1 : Int)) (4 : Int))) []) :: .str [(99 : UInt8), 111, 108, 111, 117, 114] :: .str (List.getD [[(114 : UInt8), 101, 100], [(98 : UInt8), 108, 117, 101], [(103 : UInt8), 114, 101, 101, 110]] (Int.toNat (nextV n (vInt (intRow v)) (a + (1 : Int) + (1 : Int) + (1 : Int)) (3 : Int))) []) :: List.append [] (List.flatten (List.replicate (nat_lit 0) [.str ([]), .str ([])]))) k) false)] O' ∧ R (.agg [.str (idF k), .str (List.getD [[(48 : UInt8), 49, 46, 49], [(48 : UInt8), 49, 46, 50]] (Int.toNat (nextV n (vInt (intRow v)) a (2 : Int))) []), .str [(97 : UInt8), 99, 109, 101], .int .i64 1, .int .i64 1, .int .i64 ((400000 : Int) + (50000 : Int) * nextV n (vInt (intRow v)) (a + (1 : Int)) (4 : Int)), .own 1 2]) O') ((True ∧ True) ∧ (∀ (i : Nat), i < 2 → nrefL (chunkA (TI.sz (TI.mk (TypeDesc.struct #[Field.mk "Name" (9 : TypeId) 0 false "" "" 0, Field.mk "Value" (9 : TypeId) 1 false "" "" 16]) 2 32 (Value.agg #[Value.string (ByteArray.mk #[]), Value.string (ByteArray.mk #[])]) true)) (.str [(112 : UInt8), 111, 119, 101, 114] :: .str (List.getD [[(49 : UInt8)], [(50 : UInt8)], [(50 : UInt8), 46, 53], [(52 : UInt8)]] (Int.toNat (nextV n (vInt (intRow v)) (a + (1 : Int) + (1 : Int)) (4 : Int))) []) :: .str [(99 : UInt8), 111, 108, 111, 117, 114] :: .str (List.getD [[(114 : UInt8), 101, 100], [(98 : UInt8), 108, 117, 101], [(103 : UInt8), 114, 101, 101, 110]] (Int.toNat (nextV n (vInt (intRow v)) (a + (1 : Int) + (1 : Int) + (1 : Int)) (3 : Int))) []) :: List.append [] (List.flatten (List.replicate (nat_lit 0) [.str ([]), .str ([])]))) i) = true) ∧ ∃ (O' : List (Nat × AObj)), RowsEq [(0, .cells [.view 1 n (intRow v), .int .i64 (a + (1 : Int) + (1 : Int) + (1 : Int) + (1 : Int) + (1 : Int))] 31), (1, .row 52 2 2 (chunkA (TI.sz (TI.mk (TypeDesc.struct #[Field.mk "Name" (9 : TypeId) 0 false "" "" 0, Field.mk "Value" (9 : TypeId) 1 false "" "" 16]) 2 32 (Value.agg #[Value.string (ByteArray.mk #[]), Value.string (ByteArray.mk #[])]) true)) (.str [(112 : UInt8), 111, 119, 101, 114] :: .str (List.getD [[(49 : UInt8)], [(50 : UInt8)], [(50 : UInt8), 46, 53], [(52 : UInt8)]] (Int.toNat (nextV n (vInt (intRow v)) (a + (1 : Int) + (1 : Int)) (4 : Int))) []) :: .str [(99 : UInt8), 111, 108, 111, 117, 114] :: .str (List.getD [[(114 : UInt8), 101, 100], [(98 : UInt8), 108, 117, 101], [(103 : UInt8), 114, 101, 101, 110]] (Int.toNat (nextV n (vInt (intRow v)) (a + (1 : Int) + (1 : Int) + (1 : Int)) (3 : Int))) []) :: List.append [] (List.flatten (List.replicate (nat_lit 0) [.str ([]), .str ([])])))) false)] O' ∧ R (.agg [.str (idF k), .str (List.getD [[(48 : UInt8), 49, 46, 49], [(48 : UInt8), 49, 46, 50]] (Int.toNat (nextV n (vInt (intRow v)) a (2 : Int))) []), .str [(97 : UInt8), 99, 109, 101], .int .i64 1, .int .i64 1, .int .i64 ((400000 : Int) + (50000 : Int) * nextV n (vInt (intRow v)) (a + (1 : Int)) (4 : Int)), .own 1 2]) O')) := by kernel_rfl

theorem item_ok (hP : C.P = Tryd.prog) : RSpecOK C 12 R_item := by
  rintro args objs R h
  unfold R_item at h
  split at h
  · rename_i k sz n f a t
    obtain ⟨rfl, rfl, hf, ha, hR⟩ := h
    rw [hf] at hR ⊢
    generalize vInt f = v at *
    refine RSpecOK.wpL (prg hP) [(16, .det S_id), (15, .det S_next)] [] 0 (.cons (id_ok hP) (.cons (next_ok hP) .nil)) (hP ▸ Tryd.func12) rfl rfl rfl [] (by kernel_rfl) trivial ?_
    rw [nf_item]
    have hw : vInt (intRow v) = v := rfl
    rw [hw]
    have r1 := nextV_range (show (1 : Int) ≤ 2 by omega) n v a
    have r2 := nextV_range (show (1 : Int) ≤ 4 by omega) n v (a + 1)
    have r3 := nextV_range (show (1 : Int) ≤ 4 by omega) n v (a + 1 + 1)
    have r4 := nextV_range (show (1 : Int) ≤ 3 by omega) n v (a + 1 + 1 + 1)
    have fin : ∀ (x1 y1 x2 y2 : List UInt8) (q : Int) (c0 : Nat), x1.length ≤ 30 → y1.length ≤ 30 → x2.length ≤ 30 → y2.length ≤ 30 → c0 < 2 → qtyF 1 1 q = 0 → atsOK (pick2 x1 x2) (pick2 y1 y2) 2 = true →
        R (.agg [.str (idF k), .str (List.getD [[48, 49, 46, 49], [48, 49, 46, 50]] c0 []), .str [97, 99, 109, 101], .int .i64 1, .int .i64 1, .int .i64 q, .own 1 2]) [(0, .cells [.view 1 n (intRow v), .int .i64 (a + 1 + 1 + 1 + 1 + 1)] 31), (1, .row 52 2 2 (atRow (pick2 x1 x2) (pick2 y1 y2)) false)] := by
      intro x1 y1 x2 y2 q c0 l1 l2 l3 l4 hc hq hats
      refine hR _ _ _ _ _ _ _ _ _ (by rw [idF_len]; omega) (getD_le _ rfl) (by decide) (fun i hi => ?_) (by omega) rfl (item_val k q c0 x1 y1 x2 y2 hc hq hats)
      match i with
      | 0 => exact ⟨l1, l2⟩
      | 1 => exact ⟨l3, l4⟩
    have two : ∀ (g : Nat → List AV) (x1 y1 x2 y2 : List UInt8), g 0 = [.str x1, .str y1] → g 1 = [.str x2, .str y2] → ∀ i, i < 2 → g i = atRow (pick2 x1 x2) (pick2 y1 y2) i := by
      intro g x1 y1 x2 y2 h0 h1 i hi
      match i with
      | 0 => exact h0
      | 1 => exact h1
    refine ⟨trivial, ⟨by omega, rfl, by omega⟩, ⟨rfl, rfl, rfl, ⟨by omega, by omega⟩, by omega, by omega⟩, ⟨by omega, by omega⟩, ⟨by omega, rfl⟩, ⟨rfl, rfl, rfl, ⟨by omega, by omega⟩, by omega, by omega⟩, by simp only [inR]; omega, by simp only [inR]; omega, ⟨by omega, rfl, by omega⟩, ⟨rfl, rfl, rfl, ⟨by omega, by omega⟩, by omega, by omega⟩, ⟨by omega, by omega⟩, ⟨by omega, rfl⟩, ⟨by omega, rfl, by omega⟩, ⟨rfl, rfl, rfl, ⟨by omega, by omega⟩, by omega, by omega⟩, ⟨by omega, by omega⟩, ⟨by omega, rfl⟩, ⟨by omega, rfl, by omega⟩, ⟨rfl, rfl, rfl, ⟨by omega, by omega⟩, by omega, by omega⟩, condP_dec (fun h => ?_) (fun h => ?_)⟩
    · refine ⟨⟨by omega, by omega⟩, ⟨by omega, rfl⟩, ⟨by omega, by omega⟩, ⟨by omega, rfl⟩, ⟨by omega, by omega⟩, ⟨rfl, by omega, rfl⟩, ⟨by omega, by omega⟩, ⟨rfl, by omega, rfl⟩, ⟨trivial, trivial⟩, fun i hi => ?_, _, ?_, fin [99, 111, 108, 111, 117, 114] (List.getD [[114, 101, 100], [98, 108, 117, 101], [103, 114, 101, 101, 110]] (nextV n v (a + 1 + 1 + 1) 3).toNat []) [112, 111, 119, 101, 114] (List.getD [[49], [50], [50, 46, 53], [52]] (nextV n v (a + 1 + 1) 4).toNat []) _ _ (by decide) (getD_le _ rfl) (by decide) (getD_le _ rfl) (by omega) (item_qty r2.1 r2.2) (item_ats _ (by omega) _ (by omega)).1⟩
      · match i with
        | 0 => rfl
        | 1 => rfl
      · exact ⟨rfl, ⟨rfl, rfl, rfl, rfl, rfl, two _ _ _ _ _ rfl rfl⟩, trivial⟩
    · refine ⟨⟨trivial, trivial⟩, fun i hi => ?_, _, ?_, fin [112, 111, 119, 101, 114] (List.getD [[49], [50], [50, 46, 53], [52]] (nextV n v (a + 1 + 1) 4).toNat []) [99, 111, 108, 111, 117, 114] (List.getD [[114, 101, 100], [98, 108, 117, 101], [103, 114, 101, 101, 110]] (nextV n v (a + 1 + 1 + 1) 3).toNat []) _ _ (by decide) (getD_le _ rfl) (by decide) (getD_le _ rfl) (by omega) (item_qty r2.1 r2.2) (item_ats _ (by omega) _ (by omega)).2⟩
      · match i with
        | 0 => rfl
        | 1 => rfl
      · exact ⟨rfl, ⟨rfl, rfl, rfl, rfl, rfl, two _ _ _ _ _ rfl rfl⟩, trivial⟩
  · exact h.elim
end Go.Eng
