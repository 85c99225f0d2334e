/- The laws of messages: the loops' states of list and turned. -/
import Derived.Test.YtokpcnppihgdlaaGreatDoorLn
import Derived.Test.YtokpcnppihgdlaaGreatDoorLr
import Derived.Test.YtokpcnppihgdlaaGreatDoorLm
import Derived.Test.YtokpcnppihgdlaaGreatDoorLo
import Derived.Test.YtokpcnppihgdlaaGreatDoorLp
import Derived.Test.YtokpcnppihgdlaaGreatDoorLq
namespace Go.Eng
open Go.Proofs Go.RowKit
set_option maxRecDepth 20000
theorem nf_name1 (r : Int) (R : AV → List (Nat × AObj) → Prop) : wpFn te [(146, .det S_containsRune)] [] 0 Tryz.f145 [.int .i32 r] [] R = ((true = true ∧ 38 ≤ 1000000 ∧ (0 : Int) ≤ r ∧ r ≤ (1114111 : Int)) ∧ R (.bool !decide ((0 : Int) ≤ idxRune ([(97 : UInt8), 98, 99, 100, 101, 102, 103, 104, 105, 106, 107, 108, 109, 110, 111, 112, 113, 114, 115, 116, 117, 118, 119, 120, 121, 122, 48, 49, 50, 51, 52, 53, 54, 55, 56, 57, 45, 46]) r)) []) := by kernel_rfl
theorem nf_indexFunc (s : List UInt8) (R : AV → List (Nat × AObj) → Prop) : wpFn te [] [(2, L_indexFunc s)] 0 Tryz.f173 [.str s, .func 145 [], .bool true] [] R = (letI z0 := St.mk [(1, .func 145 []), (2, .bool true), (10, .ptr 0 0)] [(0, .siter s 0)] 1 []; some z0 = some z0 ∧ condP (List.all s isNB) (R (.int .i64 (-1 : Int)) []) (R (.int .i64 (↑(badAt s) : Int)) [])) := by kernel_rfl
theorem nf_indexFunc_round (s : List UInt8) (k : Nat) (P : Nat → Prop) (R : Exit → St → Prop) : roundP ⟨te, [(145, .det S_name1)], [], 0, 21, 0⟩ (loopB Tryz.f173 2) [1, 2, 10] [] [6] (S_ifState s) P R (S_ifState s k) = (letI z1 := ([(1, .func 145 []), (2, .bool true), (10, .ptr 0 0)] : List (Nat × AV)); letI z0 := (↑(Prod.fst (runeAt s k)) : Int); condP (decide (k < List.length s)) (True ∧ ((0 : Int) ≤ z0 ∧ z0 ≤ (1114111 : Int)) ∧ condP (decide ((!decide ((0 : Int) ≤ idxRune nameAll z0)) = true)) (R .ret (St.mk [(6, .int .i64 (↑k : Int))] [] 0 [])) (∃ (i' : Nat), some (St.mk z1 [(0, .siter s (k + Prod.snd (runeAt s k)))] 1 []) = some (St.mk z1 [(0, .siter s i')] 1 []) ∧ P i')) (True ∧ R (.exit 0) (St.mk [] [] 0 []))) := by kernel_rfl
theorem nf_IndexFunc (s : List UInt8) (R : AV → List (Nat × AObj) → Prop) : wpFn te [(173, .det S_indexFunc)] [] 0 Tryz.f161 [.str s, .func 145 []] [] R = (True ∧ R (.int .i64 (firstBad s)) []) := by kernel_rfl
theorem nf_ContainsFunc (s : List UInt8) (R : AV → List (Nat × AObj) → Prop) : wpFn te [(161, .det S_IndexFunc)] [] 0 Tryz.f144 [.str s, .func 145 []] [] R = (True ∧ R (.bool (decide ((0 : Int) ≤ firstBad s))) []) := by kernel_rfl
theorem nf_name (s : List UInt8) (R : AV → List (Nat × AObj) → Prop) : wpFn te [(142, .det S_trim), (144, .det S_ContainsFunc)] [] 0 Tryz.f125 [.str s] [] R = (condP (!decide (s = [])) (condP (decide ((↑(List.length s) : Int) ≤ (24 : Int))) (((0 : Int) ≤ (1 : Int) ∧ (1 : Int) ≤ (↑(List.length s) : Int)) ∧ (List.length (List.take (Int.toNat (1 : Int)) s) ≤ 9223372036854775807 ∧ 2 ≤ 36 ∧ 36 < 4294967281 ∧ ∀ (b : UInt8), b ∈ [(97 : UInt8), 98, 99, 100, 101, 102, 103, 104, 105, 106, 107, 108, 109, 110, 111, 112, 113, 114, 115, 116, 117, 118, 119, 120, 121, 122, 48, 49, 50, 51, 52, 53, 54, 55, 56, 57] → UInt8.toNat b < 128) ∧ condP (decide (trimF ([(97 : UInt8), 98, 99, 100, 101, 102, 103, 104, 105, 106, 107, 108, 109, 110, 111, 112, 113, 114, 115, 116, 117, 118, 119, 120, 121, 122, 48, 49, 50, 51, 52, 53, 54, 55, 56, 57]) (List.take (Int.toNat (1 : Int)) s) = [])) (True ∧ R (.bool !!List.all s isNB) []) (R (.bool false) [])) (R (.bool false) [])) (R (.bool false) [])) := by kernel_rfl
variable {C : Ctx} [C.Loose]
theorem name1_ok (hP : C.P = Tryz.prog) : SpecOK C 145 S_name1 := by
  rintro args objs U Os vc h hvc
  unfold S_name1 at h
  split at h <;> simp only [Option.some.injEq, Prod.mk.injEq, reduceCtorEq] at h
  rename_i r
  obtain ⟨rfl, rfl, rfl⟩ := h
  refine SpecOK.wp0 (prg hP) [(146, .det S_containsRune)] 0 (.cons (containsRune_ok hP) .nil) (hP ▸ Tryz.func145) rfl rfl rfl ?_
  rw [nf_name1]
  exact ⟨⟨rfl, by omega, hvc.1, hvc.2⟩, rfl, rfl⟩
theorem indexFunc_loop (hP : C.P = Tryz.prog) (s : List UInt8) : LoopOK C 0 21 (loopC Tryz.f173 2) (L_indexFunc s) := by
  rintro st Q ⟨h0, hQ⟩
  have hQ := condP_elim hQ
  refine LoopOK.mk (prg hP) [(145, .det S_name1)] 0 (.cons (name1_ok hP) .nil) [1, 2, 10] [] [6] (S_ifState s) (fun k => k ≤ s.length ∧ ∀ j, j < k → isNB (s.getD j 0) = true) (fun k => s.length - k) 0 ⟨Nat.zero_le _, fun j h => by omega⟩ h0 fun k ⟨hk, hall⟩ => ?_
  rw [nf_indexFunc_round]
  refine condP_intro (fun h => ?_) (fun h => ⟨trivial, ?_⟩)
  · have h := of_decide_eq_true h
    have hle := runeAt_le h
    refine ⟨trivial, ⟨by omega, by omega⟩, ?_⟩
    -- what the predicate says of the rune is what isNB says of the byte
    have key : (decide (0 ≤ idxRune nameAll ((runeAt s k).1 : Int))) = isNB (s.getD k 0) ∧ (isNB (s.getD k 0) = true → (runeAt s k).2 = 1) := by
      by_cases hlo : (s.getD k 0).toNat < 128
      · rw [runeAt_lo h hlo]
        exact ⟨nameRune_lo _ hlo, fun _ => rfl⟩
      · have hh := runeAt_hi h (by omega)
        have hn : isNB (s.getD k 0) = false := by
          generalize s.getD k 0 = b at *
          simp only [isNB, isLet, Bool.or_eq_false_iff, Bool.and_eq_false_imp, decide_eq_true_eq, decide_eq_false_iff_not]
          omega
        rw [nameRune_hi _ hh.1, hn]
        exact ⟨rfl, fun h => by cases h⟩
    rw [key.1]
    refine condP_intro (fun hb => ?_) (fun hb => ?_)
    · have hb : isNB (s.getD k 0) = false := by simpa using hb
      have hf : s.all isNB = false := by
        cases ha : s.all isNB with
        | false => rfl
        | true =>
          have := List.all_eq_true.1 ha (s.getD k 0) (by simp [List.getD, h])
          rw [hb] at this; cases this
      obtain ⟨b1, b2, b3⟩ := badAt_spec hf
      have : badAt s = k := by
        rcases Nat.lt_trichotomy (badAt s) k with hl | hl | hl
        · rw [hall _ hl] at b2; cases b2
        · exact hl
        · rw [b3 k hl] at hb; cases hb
      have hq := hQ.2 hf
      rw [this] at hq
      exact hq
    · have hb : isNB (s.getD k 0) = true := by simpa using hb
      rw [key.2 hb]
      refine ⟨k + 1, rfl, ⟨by omega, fun j hj => ?_⟩, by omega⟩
      rcases Nat.lt_succ_iff_lt_or_eq.1 hj with hj | rfl
      · exact hall j hj
      · exact hb
  · have h := of_decide_eq_false h
    refine hQ.1 (List.all_eq_true.2 fun b hb => ?_)
    obtain ⟨j, hj, rfl⟩ := List.getElem_of_mem hb
    have := hall j (by omega)
    simpa [List.getD, hj] using this
theorem indexFunc_ok (hP : C.P = Tryz.prog) : SpecOK C 173 S_indexFunc := by
  rintro args objs U Os vc h hvc
  unfold S_indexFunc at h
  split at h <;> simp only [Option.some.injEq, Prod.mk.injEq, reduceCtorEq] at h
  rename_i s
  obtain ⟨rfl, rfl, rfl⟩ := h
  refine SpecOK.wpL (prg hP) [] [(2, L_indexFunc s)] 0 .nil (hP ▸ Tryz.func173) rfl rfl rfl [(loopC Tryz.f173 2, L_indexFunc s)] (by kernel_rfl) ⟨indexFunc_loop hP s, trivial⟩ ?_
  rw [nf_indexFunc]
  refine ⟨rfl, condP_intro (fun h => ⟨?_, rfl⟩) (fun h => ⟨?_, rfl⟩)⟩
  · simp only [firstBad, h]
  · simp only [firstBad, h]
theorem IndexFunc_ok (hP : C.P = Tryz.prog) : SpecOK C 161 S_IndexFunc := by
  rintro args objs U Os vc h hvc
  unfold S_IndexFunc at h
  split at h <;> simp only [Option.some.injEq, Prod.mk.injEq, reduceCtorEq] at h
  rename_i s
  obtain ⟨rfl, rfl, rfl⟩ := h
  refine SpecOK.wp0 (prg hP) [(173, .det S_indexFunc)] 0 (.cons (indexFunc_ok hP) .nil) (hP ▸ Tryz.func161) rfl rfl rfl ?_
  rw [nf_IndexFunc]
  exact ⟨trivial, rfl, rfl⟩
theorem ContainsFunc_ok (hP : C.P = Tryz.prog) : SpecOK C 144 S_ContainsFunc := by
  rintro args objs U Os vc h hvc
  unfold S_ContainsFunc at h
  split at h <;> simp only [Option.some.injEq, Prod.mk.injEq, reduceCtorEq] at h
  rename_i s
  obtain ⟨rfl, rfl, rfl⟩ := h
  refine SpecOK.wp0 (prg hP) [(161, .det S_IndexFunc)] 0 (.cons (IndexFunc_ok hP) .nil) (hP ▸ Tryz.func144) rfl rfl rfl ?_
  rw [nf_ContainsFunc, firstBad_neg]
  exact ⟨trivial, rfl, rfl⟩
theorem name_ok (hP : C.P = Tryz.prog) : SpecOK C 125 S_name := by
  rintro args objs U Os vc h hvc
  unfold S_name at h
  split at h <;> simp only [Option.some.injEq, Prod.mk.injEq, reduceCtorEq] at h
  rename_i s
  obtain ⟨rfl, rfl, rfl⟩ := h
  refine SpecOK.wp0 (prg hP) [(142, .det S_trim), (144, .det S_ContainsFunc)] 0 (.cons (trim_ok hP) (.cons (ContainsFunc_ok hP) .nil)) (hP ▸ Tryz.func125) rfl rfl rfl ?_
  rw [nf_name]
  cases s with
  | nil => exact ⟨rfl, rfl⟩
  | cons b r =>
    have e : (b :: r).take (Int.toNat 1) = [b] := rfl
    have hasc : ∀ x ∈ nameFirst, UInt8.toNat x < 128 := by decide +kernel
    rw [e, trimF_first]
    have hl : (List.length (b :: r) : Int) = r.length + 1 := by simp
    have hl' : List.length (b :: r) = r.length + 1 := rfl
    have hd : (b :: r).getD 0 0 = b := rfl
    refine condP_intro (fun _ => condP_intro (fun h => ⟨by omega, ⟨by simp, by omega, by omega, hasc⟩, condP_intro (fun h' => ⟨trivial, ?_, rfl⟩) (fun h' => ⟨?_, rfl⟩)⟩) (fun h => ⟨?_, rfl⟩)) (fun h => by simp at h)
    · have h := of_decide_eq_true h
      simp only [nameF, hd, h', hl', Bool.not_not]
      rw [decide_eq_true (by omega), decide_eq_true (by omega)]
      rfl
    · simp only [nameF, hd, h', Bool.and_false, Bool.false_and]
    · have h := of_decide_eq_false h
      simp only [nameF, hl']
      rw [decide_eq_false (p := r.length + 1 ≤ 24) (by omega)]
      simp
end Go.Eng
namespace Go.Eng
open Go.Proofs
set_option maxRecDepth 20000
theorem nf_digits (s : List UInt8) (a b : Int) (R : AV → List (Nat × AObj) → Prop) : wpFn te [(142, .det S_trim)] [] 0 Tryz.f121 [.str s, .int .i64 a, .int .i64 b] [] R = (letI z0 := (List.length s ≤ 9223372036854775807 ∧ 2 ≤ 10 ∧ 10 < 4294967281 ∧ ∀ (b : UInt8), b ∈ [(48 : UInt8), 49, 50, 51, 52, 53, 54, 55, 56, 57] → UInt8.toNat b < 128); letI z1 := (z0 ∧ R (.bool (decide (trimF ([(48 : UInt8), 49, 50, 51, 52, 53, 54, 55, 56, 57]) s = []))) []); condP (decide ((↑(List.length s) : Int) = a)) z1 (condP (decide ((↑(List.length s) : Int) = b)) z1 (R (.bool false) []))) := by kernel_rfl
theorem nf_checkDigit (s : List UInt8) (R : AV → List (Nat × AObj) → Prop) : wpFn te [(121, .det S_digits)] [(5, L_checkDigit s)] 0 Tryz.f122 [.str s] [] R = (((7 : Int) ≤ (100 : Int) ∧ (12 : Int) ≤ (100 : Int)) ∧ condP (!digitsF s (7 : Int) (12 : Int)) (R (.tuple [.int .i64 0, .bool false]) []) (some (St.mk [(0, .str s), (4, .int .i64 0), (11, .int .i64 (↑(List.length s) : Int)), (12, .int .i64 0)] [] 0 []) = some (St.mk [(0, .str s), (4, .int .i64 (cdSum s 0)), (11, .int .i64 (↑(List.length s) : Int)), (12, .int .i64 (↑0 : Int))] [] 0 []) ∧ List.length s ≤ 12 ∧ List.all s isDig = true ∧ (10 : Int) ≠ (0 : Int) ∧ inR .i64 ((10 : Int) - Int.tmod (cdSum s (List.length s)) (10 : Int)) ∧ (10 : Int) ≠ (0 : Int) ∧ R (.tuple [.int .i64 (Int.tmod ((10 : Int) - Int.tmod (cdSum s (List.length s)) (10 : Int)) (10 : Int)), .bool true]) [])) := by kernel_rfl
theorem nf_checkDigit_loop (s : List UInt8) (k : Nat) (P : Nat → Prop) (R : Exit → St → Prop) : roundP ⟨te, [], [], 0, 36, 0⟩ (loopB Tryz.f122 5) [0, 4, 11, 12] [4] [] (S_cd s) P R (S_cd s k) = (letI z1 := (↑(List.length s) : Int); letI z0 := (↑(UInt8.toNat (List.getD s (Int.toNat (↑k : Int)) (0 : UInt8))) : Int); letI z2 := (cdSum s k + ((1 : Int) + (2 : Int) * Int.tmod (z1 - (↑k : Int)) (2 : Int)) * ((z0 - (48 : Int)) % (256 : Int))); condP (decide ((↑k : Int) < z1)) (inR .i64 (z1 - (↑k : Int)) ∧ (2 : Int) ≠ (0 : Int) ∧ inR .i64 ((2 : Int) * Int.tmod (z1 - (↑k : Int)) (2 : Int)) ∧ inR .i64 ((1 : Int) + (2 : Int) * Int.tmod (z1 - (↑k : Int)) (2 : Int)) ∧ ((0 : Int) ≤ (↑k : Int) ∧ (↑k : Int) < z1) ∧ inR .i64 ((z0 - (48 : Int)) % (256 : Int)) ∧ inR .i64 (((1 : Int) + (2 : Int) * Int.tmod (z1 - (↑k : Int)) (2 : Int)) * ((z0 - (48 : Int)) % (256 : Int))) ∧ inR .i64 z2 ∧ inR .i64 ((↑k : Int) + (1 : Int)) ∧ ∃ (i' : Nat), some (St.mk [(0, .str s), (4, .int .i64 z2), (11, .int .i64 z1), (12, .int .i64 ((↑k : Int) + (1 : Int)))] [] 0 []) = some (St.mk [(0, .str s), (4, .int .i64 (cdSum s i')), (11, .int .i64 z1), (12, .int .i64 (↑i' : Int))] [] 0 []) ∧ P i') (R (.exit 0) (St.mk [(4, .int .i64 (cdSum s k))] [] 0 []))) := by kernel_rfl
theorem nf_validID (s : List UInt8) (R : AV → List (Nat × AObj) → Prop) : wpFn te [(121, .det S_digits), (122, .det S_checkDigit)] [] 0 Tryz.f92 [.str s] [] R = (letI z0 := (↑(List.length s) : Int); letI z1 := (↑(UInt8.toNat (List.getD s (Int.toNat (z0 - (1 : Int))) (0 : UInt8))) : Int); ((8 : Int) ≤ (100 : Int) ∧ (13 : Int) ≤ (100 : Int)) ∧ condP (!digitsF s (8 : Int) (13 : Int)) (R (.bool false) []) (inR .i64 (z0 - (1 : Int)) ∧ ((0 : Int) ≤ z0 - (1 : Int) ∧ z0 - (1 : Int) ≤ z0) ∧ True ∧ ((0 : Int) ≤ z0 - (1 : Int) ∧ z0 - (1 : Int) < z0) ∧ inR .i64 ((z1 - (48 : Int)) % (256 : Int)) ∧ R (.bool (decide (Prod.fst (cdF (List.take (Int.toNat (z0 - (1 : Int))) s)) = (z1 - (48 : Int)) % (256 : Int)))) [])) := by kernel_rfl
variable {C : Ctx} [C.Loose]
theorem digits_ok (hP : C.P = Tryz.prog) (htrim : SpecOK C 142 S_trim) : SpecOK C 121 S_digits := by
  have _ : C.Loose := inferInstance
  rintro args objs U Os vc h hvc
  unfold S_digits at h
  split at h <;> simp only [Option.some.injEq, Prod.mk.injEq, reduceCtorEq] at h
  rename_i s a b
  obtain ⟨rfl, rfl, rfl⟩ := h
  refine SpecOK.wp0 (prg hP) [(142, .det S_trim)] 0 (.cons htrim .nil) (hP ▸ Tryz.func121) rfl rfl rfl ?_
  rw [nf_digits]
  have hm : (9223372036854775807 : Nat) = maxLen := rfl
  have hlt : ∀ b ∈ ([48, 49, 50, 51, 52, 53, 54, 55, 56, 57] : List UInt8), UInt8.toNat b < 128 := by decide
  refine condP_intro (fun h => ?_) (fun h => condP_intro (fun h' => ?_) (fun h' => ?_))
  · have h2 := of_decide_eq_true h
    refine ⟨⟨by omega, by omega, by omega, hlt⟩, ?_, rfl⟩
    simp only [digitsF, h, Bool.true_or, Bool.true_and, trimF_digits]
  · have h2 := of_decide_eq_true h'
    refine ⟨⟨by omega, by omega, by omega, hlt⟩, ?_, rfl⟩
    simp only [digitsF, h', Bool.or_true, Bool.true_and, trimF_digits]
  · simp [digitsF, h, h']
theorem cdSum_bound {s : List UInt8} (h : s.all isDig = true) : ∀ k, k ≤ s.length → 0 ≤ cdSum s k ∧ cdSum s k ≤ 27 * k
  | 0, _ => by simp [cdSum]
  | k + 1, hk => by
    have ih := cdSum_bound h k (by omega)
    have hd := isDig_at h k (by omega)
    simp only [cdSum]
    rcases Int.emod_two_eq (↑s.length - ↑k) with e | e <;> rw [e] <;> omega
theorem cd_loop_ok (hP : C.P = Tryz.prog) (s : List UInt8) : LoopOK C 0 36 (loopC Tryz.f122 5) (L_checkDigit s) := by
  have _ : C.Loose := inferInstance
  rintro st Q ⟨h0, hlen, hall, hQ⟩
  refine LoopOK.mk (prg hP) [] 0 .nil [0, 4, 11, 12] [4] [] (S_cd s) (fun k => k ≤ s.length) (fun k => s.length - k) 0 (Nat.zero_le _) h0 fun k hk => ?_
  rw [nf_checkDigit_loop]
  have hb := cdSum_bound hall k hk
  refine condP_intro (fun h => ?_) (fun h => ?_)
  · have h := of_decide_eq_true h
    have hd := isDig_at hall k (by omega)
    have e : Int.tmod (↑s.length - ↑k) 2 = (↑s.length - ↑k) % 2 := Int.tmod_eq_emod_of_nonneg (by omega)
    have e3 : ((s.getD k 0).toNat - 48 : Int) % 256 = (s.getD k 0).toNat - 48 := by omega
    simp only [inR, e, Int.toNat_natCast, e3]
    have hs : cdSum s (k + 1) = cdSum s k + (1 + 2 * ((↑s.length - ↑k) % 2)) * (↑(s.getD k 0).toNat - 48) := rfl
    rcases Int.emod_two_eq (↑s.length - ↑k) with e | e <;> rw [e] at hs ⊢ <;> and_intros <;> first
      | omega
      | exact ⟨k + 1, by rw [hs]; rfl, by omega, by omega⟩
  · have h := of_decide_eq_false h
    have hk : k = s.length := by omega
    rw [hk]; exact hQ
theorem checkDigit_ok (hP : C.P = Tryz.prog) (htrim : SpecOK C 142 S_trim) : SpecOK C 122 S_checkDigit := by
  rintro args objs U Os vc h hvc
  unfold S_checkDigit at h
  split at h <;> simp only [Option.some.injEq, Prod.mk.injEq, reduceCtorEq] at h
  rename_i s
  obtain ⟨rfl, rfl, rfl⟩ := h
  refine SpecOK.wpL (prg hP) [(121, .det S_digits)] [(5, L_checkDigit s)] 0 (.cons (digits_ok hP htrim) .nil) (hP ▸ Tryz.func122) rfl rfl rfl [(loopC Tryz.f122 5, L_checkDigit s)] (by kernel_rfl) ⟨cd_loop_ok hP s, trivial⟩ ?_
  rw [nf_checkDigit]
  refine ⟨by omega, condP_intro (fun h => ?_) (fun h => ?_)⟩
  · have h : digitsF s 7 12 = false := by simpa using h
    simp [cdF, h]
  · have h : digitsF s 7 12 = true := by simpa using h
    have h' := h
    simp only [digitsF, Bool.and_eq_true, Bool.or_eq_true, decide_eq_true_eq] at h'
    have hb := cdSum_bound h'.2 s.length (Nat.le_refl _)
    have e : Int.tmod (cdSum s s.length) 10 = cdSum s s.length % 10 := Int.tmod_eq_emod_of_nonneg (by omega)
    rw [e, Int.tmod_eq_emod_of_nonneg (by omega)]
    refine ⟨rfl, by omega, h'.2, by omega, by simp only [inR]; omega, by omega, ?_, rfl⟩
    simp [cdF, h]
theorem validID_ok (hP : C.P = Tryz.prog) (htrim : SpecOK C 142 S_trim) : SpecOK C 92 S_validID := by
  rintro args objs U Os vc h hvc
  unfold S_validID at h
  split at h <;> simp only [Option.some.injEq, Prod.mk.injEq, reduceCtorEq] at h
  rename_i s
  obtain ⟨rfl, rfl, rfl⟩ := h
  refine SpecOK.wp0 (prg hP) [(121, .det S_digits), (122, .det S_checkDigit)] 0 (.cons (digits_ok hP htrim) (.cons (checkDigit_ok hP htrim) .nil)) (hP ▸ Tryz.func92) rfl rfl rfl ?_
  rw [nf_validID]
  refine ⟨by omega, condP_intro (fun h => ?_) (fun h => ?_)⟩
  · have h : digitsF s 8 13 = false := by simpa using h
    simp [validIDF, h]
  · have h : digitsF s 8 13 = true := by simpa using h
    have h' := h
    simp only [digitsF, Bool.and_eq_true, Bool.or_eq_true, decide_eq_true_eq] at h'
    have e : (↑s.length - 1 : Int).toNat = s.length - 1 := by omega
    have hd := isDig_at h'.2 (s.length - 1) (by omega)
    rw [e]
    have e2 : ((s.getD (s.length - 1) 0).toNat - 48 : Int) % 256 = (s.getD (s.length - 1) 0).toNat - 48 := by omega
    simp only [inR, e2]
    refine ⟨by omega, by omega, trivial, by omega, by omega, ?_, trivial⟩
    simp [validIDF, h]
end Go.Eng
namespace Go.Eng
open Go.Proofs Go.RowKit
variable {C : Ctx} [C.Loose]
set_option maxRecDepth 20000
theorem nf_valw (id code brand : List UInt8) (d c a : Int) (n : Nat) (nm vl : Nat → List UInt8) (R : AV → List (Nat × AObj) → Prop) : wpFn te [(92, .det S_validID), (124, .det S_level), (125, .det S_name), (126, .det S_qty)] [(13, L_vw n nm vl)] 2 Tryz.f97 [.agg [.str id, .str code, .str brand, .int .i64 d, .int .i64 c, .int .i64 a, .view 2 n (atRow nm vl)]] [] R = (True ∧ condP (!validIDF id) (R (.int .i64 90) []) (List.length code < 4294967281 ∧ condP (decide (levelV code < (1 : Int))) (R (.int .i64 91) []) (True ∧ condP (!nameF brand) (R (.int .i64 92) []) (True ∧ condP (!decide (qtyF d c a = (0 : Int))) (R (.int .i64 93) []) (condP (decide ((12 : Int) < (↑n : Int))) (R (.int .i64 94) []) (some (St.mk [(3, .map 0), (33, .view 2 n (atRow nm vl)), (34, .int .i64 (↑n : Int)), (35, .int .i64 0)] [(0, .amap (List.map (fun (p : AV × AV) => (AV.rn (ren 0 [(65, 0)]) (Prod.fst p), AV.rn (ren 0 [(65, 0)]) (Prod.snd p))) []))] 1 []) = some (St.mk [(3, .map 0), (33, .view 2 n (atRow nm vl)), (34, .int .i64 (↑n : Int)), (35, .int .i64 (↑0 : Int))] [(0, .amap (seenM nm 0))] 1 []) ∧ n ≤ 12 ∧ (∀ (i : Nat), i < n → List.length (nm i) < 4294967281 ∧ List.length (vl i) < 4294967281) ∧ condP (atsOK nm vl n) (R (.int .i64 0) []) (R (.int .i64 94) []))))))) := by kernel_rfl
theorem nf_vw_round (n : Nat) (nm vl : Nat → List UInt8) (k : Nat) (P : Nat → Prop) (R : Exit → St → Prop) : roundP ⟨te, [(125, .det S_name)], [], 0, 59, 0⟩ (loopB Tryz.f97 13) [3, 33, 34, 35] [] [2] (S_vw n nm vl) P R (S_vw n nm vl k) = (letI z3 := (Int.toNat (↑k : Int)); letI z2 := TI.desc (TI.mk TypeDesc.string 1 16 (Value.string (ByteArray.mk #[])) false); letI z1 := R .ret (St.mk [(2, .int .i64 94)] [] 0 []); letI z0 := (mget (seenM nm k) (.str (nm z3))); condP (decide ((↑k : Int) < (↑n : Int))) (((0 : Int) ≤ (↑k : Int) ∧ (↑k : Int) < (↑n : Int) ∧ 2 = 2) ∧ True ∧ condP (!nameF (nm z3)) z1 (True ∧ condP (!nameF (vl z3)) z1 ((KeysOK z2 (seenM nm k) ∧ .bool (boolOf (Option.getD z0 (.bool false))) = Option.getD z0 (.bool false)) ∧ condP (boolOf (Option.getD z0 (.bool false))) z1 (KeysOK z2 (seenM nm k) ∧ inR .i64 ((↑k : Int) + (1 : Int)) ∧ ∃ (i' : Nat), some (St.mk [(3, .map 0), (33, .view 2 n (atRow nm vl)), (34, .int .i64 (↑n : Int)), (35, .int .i64 ((↑k : Int) + (1 : Int)))] [(0, .amap (List.map (fun (p : AV × AV) => (AV.rn (ren 0 [(0, 0)]) (Prod.fst p), AV.rn (ren 0 [(0, 0)]) (Prod.snd p))) (mset (seenM nm k) (.str (nm z3)) (.bool true))))] 1 []) = some (St.mk [(3, .map 0), (33, .view 2 n (atRow nm vl)), (34, .int .i64 (↑n : Int)), (35, .int .i64 (↑i' : Int))] [(0, .amap (seenM nm i'))] 1 []) ∧ P i')))) (R (.exit 1) (St.mk [] [] 0 []))) := by kernel_rfl
theorem valw_loop (hP : C.P = Tryz.prog) (n : Nat) (nm vl : Nat → List UInt8) : LoopOK C 0 59 (loopC Tryz.f97 13) (L_vw n nm vl) := by
  rintro st Q ⟨h0, hn, hs, hQ⟩
  have hR := condP_elim hQ
  refine LoopOK.mk (prg hP) [(125, .det S_name)] 0 (.cons (name_ok hP) .nil) [3, 33, 34, 35] [] [2] (S_vw n nm vl) (fun k => k ≤ n ∧ atsOK nm vl k = true) (fun k => n - k) 0 ⟨by omega, rfl⟩ h0 (fun k hk => ?_)
  obtain ⟨hkn, hok⟩ := hk
  rw [nf_vw_round]
  have hbad : ∀ m, k ≤ m → k < m → atOK nm vl k = false → atsOK nm vl m = false := by
    intro m
    induction m with
    | zero => intro _ h; omega
    | succ m ih =>
      intro _ h2 h3
      rw [atsOK]
      by_cases hkm : k = m
      · subst hkm; rw [h3, Bool.and_false]
      · rw [ih (by omega) (by omega) h3, Bool.false_and]
  rw [Int.toNat_natCast]
  refine condP_dec (fun h1 => ?_) (fun h1 => ?_)
  · have hlt : k < n := by omega
    have hfail : atOK nm vl k = false → Q .ret (St.mk [(2, .int .i64 94)] [] 0 []) := fun h => hR.2 (hbad n hkn hlt h)
    have hk := seen_keys nm vl k hok
    rw [mget_seen]
    refine ⟨⟨by omega, by omega, rfl⟩, trivial, condP_not (fun h2 => hfail (by unfold atOK; rw [h2]; rfl)) (fun h2 => ⟨trivial, condP_not (fun h3 => hfail (by unfold atOK; rw [h3, Bool.and_false]; rfl)) (fun h3 => ⟨⟨hk, ?_⟩, ?_⟩)⟩)⟩
    · cases (List.range k).any (fun i => decide (nm i = nm k)) <;> rfl
    · cases ha : (List.range k).any (fun i => decide (nm i = nm k)) with
      | true => exact hfail (by unfold atOK; rw [fresh_any, ha]; simp)
      | false =>
        have hat : atOK nm vl k = true := by unfold atOK; rw [h2, h3, fresh_any, ha]; rfl
        refine ⟨hk, by simp only [inR]; omega, k + 1, ?_, ⟨by omega, by rw [atsOK, hok, hat]; rfl⟩, by omega⟩
        rw [mset_fresh nm _ _ k ha, show seenM nm k ++ [(.str (nm k), AV.bool true)] = seenM nm (k + 1) from rfl, seen_rn]
        rfl
  · have : k = n := by omega
    subst this
    exact hR.1 hok
theorem valV_ok (hP : C.P = Tryz.prog) (hL : ∀ w, C.laid w → LaidW w) : SpecOK C 97 S_valV := by
  rintro args objs U Os vc h hvc
  unfold S_valV at h
  split at h <;> simp only [Option.some.injEq, Prod.mk.injEq, reduceCtorEq] at h
  rename_i id code brand d c a n f
  obtain ⟨rfl, rfl, rfl⟩ := h
  obtain ⟨hn, h1, h2, hs, hf⟩ := hvc
  rw [hf]
  rw [← hf]
  generalize nmOf f = nm at *
  generalize vlOf f = vl at *
  rw [hf]
  unfold valF
  refine SpecOK.wpL (prg hP) [(92, .det S_validID), (124, .det S_level), (125, .det S_name), (126, .det S_qty)] [(13, L_vw n nm vl)] 2 (.cons (validID_ok hP (trim_ok hP)) (.cons (level_ok hP hL) (.cons (name_ok hP) (.cons (qty_ok hP) .nil)))) (hP ▸ Tryz.func97) rfl rfl rfl [(loopC Tryz.f97 13, L_vw n nm vl)] (by kernel_rfl) ⟨valw_loop hP n nm vl, trivial⟩ ?_
  rw [nf_valw, levelV_lt]
  refine ⟨trivial, condP_not (fun q1 => ?_) (fun q1 => ⟨h1, condP_not (fun q2 => ?_) (fun q2 => ⟨trivial, condP_not (fun q3 => ?_) (fun q3 => ⟨trivial, condP_ndec (fun q4 => ?_) (fun q4 => condP_dec (fun q5 => ?_) (fun q5 => ⟨rfl, by omega, hs, condP_intro (fun q6 => ?_) (fun q6 => ?_)⟩))⟩)⟩)⟩)⟩
  · rw [q1]; exact ⟨rfl, rfl⟩
  · rw [q1, q2]; exact ⟨rfl, rfl⟩
  · rw [q1, q2, q3]; exact ⟨rfl, rfl⟩
  · rw [q1, q2, q3, decide_eq_false q4]; exact ⟨rfl, rfl⟩
  · rw [q1, q2, q3, decide_eq_true q4, decide_eq_true (show 12 < n by omega)]; exact ⟨rfl, rfl⟩
  · rw [q1, q2, q3, decide_eq_true q4, decide_eq_false (show ¬ 12 < n by omega), q6]; exact ⟨rfl, rfl⟩
  · rw [q1, q2, q3, decide_eq_true q4, decide_eq_false (show ¬ 12 < n by omega), q6]; exact ⟨rfl, rfl⟩
end Go.Eng
namespace Go.Eng
open Go.Proofs Go.RowKit
variable {C : Ctx} [C.Loose]
set_option maxRecDepth 20000
theorem nf_cname (s : List UInt8) (R : AV → List (Nat × AObj) → Prop) : wpFn te [(97, .det S_val0)] [] 0 Tryz.f64 [.str s] [] R = ((2 < 4294967281 ∧ List.length s < 4294967281) ∧ R (.bool (decide ((valF [(48 : UInt8), 48, 48, 48, 48, 48, 48, 48] [(48 : UInt8), 49] s (4 : Int) (1 : Int) (1 : Int) 0 (fun (_x : Nat) => []) fun (_x : Nat) => []) = (0 : Int)))) []) := by kernel_rfl
theorem nf_cnum (n : Int) (R : AV → List (Nat × AObj) → Prop) : wpFn te [] [] 0 Tryz.f65 [.int .i64 n] [] R = (condP (decide ((1 : Int) ≤ n)) (R (.bool (decide (n ≤ (1048576 : Int)))) []) (R (.bool false) [])) := by kernel_rfl
theorem nf_calv (n : Int) (R : AV → List (Nat × AObj) → Prop) : wpFn te [] [] 0 Tryz.f127 [.int .i64 n] [] R = (condP (decide ((0 : Int) ≤ n)) (R (.bool (decide (n ≤ (182620 : Int)))) []) (R (.bool false) [])) := by kernel_rfl
theorem nf_weekday (n : Int) (R : AV → List (Nat × AObj) → Prop) : wpFn te [(127, .det S_calv)] [] 0 Tryz.f98 [.int .i64 n] [] R = (True ∧ condP (!(decide ((0 : Int) ≤ n) && decide (n ≤ (182620 : Int)))) (R (.int .i64 (-1 : Int)) []) ((7 : Int) ≠ (0 : Int) ∧ R (.int .i64 (Int.tmod n (7 : Int))) [])) := by kernel_rfl
theorem nf_slot (o p : List UInt8) (per : Int) (R : AV → List (Nat × AObj) → Prop) : wpFn te [(64, .det S_cname), (92, .det S_validID)] [] 0 Tryz.f67 [.str o, .str p, .int .i64 per] [] R = (List.length o < 4294967281 ∧ condP (nameF o) (True ∧ condP (validIDF p) (condP (decide ((0 : Int) ≤ per)) (R (.bool (decide (per ≤ (5999 : Int)))) []) (R (.bool false) [])) (R (.bool false) [])) (R (.bool false) [])) := by kernel_rfl
theorem nf_visit (o p : List UInt8) (per day st pr : Int) (rep : List UInt8) (R : AV → List (Nat × AObj) → Prop) : wpFn te [(67, .det S_slot), (92, .det S_validID), (98, .det S_weekday)] [] 0 Tryz.f66 [.agg [.str o, .str p, .int .i64 per, .int .i64 day, .int .i64 st, .int .i64 pr, .str rep]] [] R = (letI z3 := R (.bool false) []; letI z0 := (condP (decide (st = (5 : Int))) (True ∧ condP (validIDF rep) (R (.bool !decide (rep = p)) []) z3) (R (.bool (decide (rep = []))) [])); letI z2 := (condP (decide (pr < (1 : Int))) z3 (condP (decide ((1099511627776 : Int) < pr)) z3 z0)); letI z1 := (condP (decide (st = (3 : Int))) (condP (decide (st = (3 : Int))) (condP (!decide (pr = (0 : Int))) z3 z0) z3) (condP (decide (st = (4 : Int))) (condP (!decide (pr = (0 : Int))) z3 z0) z3)); List.length o < 4294967281 ∧ condP (!slotF o p per) z3 (True ∧ condP (decide ((bif decide ((0 : Int) ≤ day) && decide (day ≤ (182620 : Int)) then day % (7 : Int) else (-1 : Int)) < (0 : Int))) z3 (condP (decide (st = (1 : Int))) (condP (decide (st = (1 : Int))) z2 z1) (condP (decide (st = (2 : Int))) (condP (decide (st = (2 : Int))) z2 z1) (condP (decide (st = (5 : Int))) z2 z1))))) := by kernel_rfl
theorem nf_msg (m : MG) (R : AV → List (Nat × AObj) → Prop) : wpFn te [(64, .det S_cname), (67, .det S_slot), (66, .det S_visit), (65, .det S_num)] [] 0 Tryz.f33 [.agg [.str m.dev, .int .i64 m.seq, .int .i64 m.kind, .str m.v.o, .str m.v.p, .int .i64 m.v.per, .int .i64 m.v.day, .int .i64 m.v.st, .int .i64 m.v.pr, .str m.v.rep, .str m.d.o, .str m.d.p, .int .i64 m.d.per, .str m.d.dev, .int .i64 m.d.num]] [] R = (letI z6 := (MG.kind m = (1 : Int)); letI z5 := (MG.kind m = (2 : Int)); letI z4 := R (.int .i64 114) []; letI z2 := (condP (decide z5) (List.length (DT.o (MG.d m)) < 4294967281 ∧ condP (slotF (DT.o (MG.d m)) (DT.p (MG.d m)) (DT.per (MG.d m))) (List.length (DT.dev (MG.d m)) < 4294967281 ∧ condP (nameF (DT.dev (MG.d m))) (True ∧ condP (!numF (DT.num (MG.d m))) z4 (R (.int .i64 0) [])) z4) z4) (R (.int .i64 0) [])); letI z0 := (condP (decide z6) (condP (!(decide (DT.o (MG.d m) = []) && (decide (DT.p (MG.d m) = []) && (decide (DT.per (MG.d m) = (0 : Int)) && (decide (DT.dev (MG.d m) = []) && decide (DT.num (MG.d m) = (0 : Int))))))) z4 z2) z2); letI z1 := (condP (decide z5) (condP (!(decide (VT.o (MG.v m) = []) && (decide (VT.p (MG.v m) = []) && (decide (VT.per (MG.v m) = (0 : Int)) && (decide (VT.day (MG.v m) = (0 : Int)) && (decide (VT.st (MG.v m) = (0 : Int)) && (decide (VT.pr (MG.v m) = (0 : Int)) && decide (VT.rep (MG.v m) = [])))))))) (R (.int .i64 113) []) z0) z0); letI z3 := (condP (decide z6) (List.length (VT.o (MG.v m)) < 4294967281 ∧ condP (!visF (VT.mk (VT.o (MG.v m)) (VT.p (MG.v m)) (VT.per (MG.v m)) (VT.day (MG.v m)) (VT.st (MG.v m)) (VT.pr (MG.v m)) (VT.rep (MG.v m)))) (R (.int .i64 113) []) z1) z1); List.length (MG.dev m) < 4294967281 ∧ condP (!nameF (MG.dev m)) (R (.int .i64 110) []) (True ∧ condP (!numF (MG.seq m)) (R (.int .i64 111) []) (condP (!decide z6) (condP (!decide z5) (R (.int .i64 112) []) z3) z3))) := by kernel_rfl
theorem val0_ok (hP : C.P = Tryz.prog) (hL : ∀ w, C.laid w → LaidW w) : SpecOK C 97 S_val0 := by
  rintro args objs U Os vc h hvc
  unfold S_val0 at h
  split at h <;> simp only [Option.some.injEq, Prod.mk.injEq, reduceCtorEq] at h
  rename_i id code brand d c a
  obtain ⟨rfl, rfl, rfl⟩ := h
  exact ACalls.nilArg 2 (atRow (fun _ => []) (fun _ => [])) (valV_ok hP hL _ _ _ _ _ rfl ⟨Nat.zero_le _, hvc.1, hvc.2, fun i hi => absurd hi (Nat.not_lt_zero i), rfl⟩)
theorem cname_val (s : List UInt8) : decide (valF [48, 48, 48, 48, 48, 48, 48, 48] [48, 49] s 4 1 1 0 (fun _ => []) (fun _ => []) = 0) = nameF s := by
  unfold valF
  rw [show validIDF [48, 48, 48, 48, 48, 48, 48, 48] = true by decide +kernel, show parseOK [48, 49] = true by decide +kernel, show qtyF 4 1 1 = 0 by rfl]
  cases nameF s <;> rfl
theorem cname_ok (hP : C.P = Tryz.prog) (hL : ∀ w, C.laid w → LaidW w) : SpecOK C 64 S_cname := by
  rintro args objs U Os vc h hvc
  unfold S_cname at h
  split at h <;> simp only [Option.some.injEq, Prod.mk.injEq, reduceCtorEq] at h
  rename_i s
  obtain ⟨rfl, rfl, rfl⟩ := h
  refine SpecOK.wp0 (prg hP) [(97, .det S_val0)] 0 (.cons (val0_ok hP hL) .nil) (hP ▸ Tryz.func64) rfl rfl rfl ?_
  rw [nf_cname, cname_val]
  exact ⟨⟨by omega, hvc⟩, rfl, rfl⟩
theorem cnum_ok (hP : C.P = Tryz.prog) : SpecOK C 65 S_num := by
  have _ : C.Loose := inferInstance
  rintro args objs U Os vc h hvc
  unfold S_num at h
  split at h <;> simp only [Option.some.injEq, Prod.mk.injEq, reduceCtorEq] at h
  rename_i n
  obtain ⟨rfl, rfl, rfl⟩ := h
  refine SpecOK.wp0 (prg hP) [] 0 .nil (hP ▸ Tryz.func65) rfl rfl rfl ?_
  rw [nf_cnum]
  unfold numF
  exact condP_intro (fun h => by rw [h]; exact ⟨rfl, rfl⟩) (fun h => by rw [h]; exact ⟨rfl, rfl⟩)
theorem calv_ok (hP : C.P = Tryz.prog) : SpecOK C 127 S_calv := by
  have _ : C.Loose := inferInstance
  rintro args objs U Os vc h hvc
  unfold S_calv at h
  split at h <;> simp only [Option.some.injEq, Prod.mk.injEq, reduceCtorEq] at h
  rename_i n
  obtain ⟨rfl, rfl, rfl⟩ := h
  refine SpecOK.wp0 (prg hP) [] 0 .nil (hP ▸ Tryz.func127) rfl rfl rfl ?_
  rw [nf_calv]
  exact condP_intro (fun h => by rw [h]; exact ⟨rfl, rfl⟩) (fun h => by rw [h]; exact ⟨rfl, rfl⟩)
theorem weekday_ok (hP : C.P = Tryz.prog) : SpecOK C 98 S_weekday := by
  rintro args objs U Os vc h hvc
  unfold S_weekday at h
  split at h <;> simp only [Option.some.injEq, Prod.mk.injEq, reduceCtorEq] at h
  rename_i n
  obtain ⟨rfl, rfl, rfl⟩ := h
  refine SpecOK.wp0 (prg hP) [(127, .det S_calv)] 0 (.cons (calv_ok hP) .nil) (hP ▸ Tryz.func98) rfl rfl rfl ?_
  rw [nf_weekday]
  refine ⟨trivial, condP_not (fun h => by rw [h]; exact ⟨rfl, rfl⟩) (fun h => ⟨by decide, ?_⟩)⟩
  rw [h]
  have h0 : 0 ≤ n := of_decide_eq_true (Bool.and_eq_true_iff.1 h).1
  exact ⟨by rw [Int.tmod_eq_emod_of_nonneg h0]; rfl, rfl⟩
theorem slot_ok (hP : C.P = Tryz.prog) (hL : ∀ w, C.laid w → LaidW w) : SpecOK C 67 S_slot := by
  rintro args objs U Os vc h hvc
  unfold S_slot at h
  split at h <;> simp only [Option.some.injEq, Prod.mk.injEq, reduceCtorEq] at h
  rename_i o p per
  obtain ⟨rfl, rfl, rfl⟩ := h
  refine SpecOK.wp0 (prg hP) [(64, .det S_cname), (92, .det S_validID)] 0 (.cons (cname_ok hP hL) (.cons (validID_ok hP (trim_ok hP)) .nil)) (hP ▸ Tryz.func67) rfl rfl rfl ?_
  rw [nf_slot]
  unfold slotF
  exact ⟨hvc, condP_intro (fun h1 => ⟨trivial, condP_intro (fun h2 => condP_intro (fun h3 => by rw [h1, h2, h3]; exact ⟨rfl, rfl⟩) (fun h3 => by rw [h1, h2, h3]; exact ⟨rfl, rfl⟩)) (fun h2 => by rw [h1, h2]; exact ⟨rfl, rfl⟩)⟩) (fun h1 => by rw [h1]; exact ⟨rfl, rfl⟩)⟩
theorem wk_neg (day : Int) : decide ((bif decide (0 ≤ day) && decide (day ≤ 182620) then day % 7 else -1) < 0) = !(decide (0 ≤ day) && decide (day ≤ 182620)) := by
  cases h : decide (0 ≤ day) && decide (day ≤ 182620) with
  | true =>
    show decide (day % 7 < 0) = false
    rw [decide_eq_false]
    have := Int.emod_nonneg day (show (7 : Int) ≠ 0 by decide)
    omega
  | false => rfl
theorem visit_ok (hP : C.P = Tryz.prog) (hL : ∀ w, C.laid w → LaidW w) : SpecOK C 66 S_visit := by
  rintro args objs U Os vc h hvc
  unfold S_visit at h
  split at h <;> simp only [Option.some.injEq, Prod.mk.injEq, reduceCtorEq] at h
  rename_i o p per day st pr rep
  obtain ⟨rfl, rfl, rfl⟩ := h
  refine SpecOK.wp0 (prg hP) [(67, .det S_slot), (92, .det S_validID), (98, .det S_weekday)] 0 (.cons (slot_ok hP hL) (.cons (validID_ok hP (trim_ok hP)) (.cons (weekday_ok hP) .nil))) (hP ▸ Tryz.func66) rfl rfl rfl ?_
  rw [nf_visit, wk_neg]
  refine ⟨hvc, condP_not (fun h1 => ?_) (fun h1 => ⟨trivial, condP_not (fun h2 => ?_) (fun h2 => ?_)⟩)⟩
  · unfold visF; simp [h1]
  · unfold visF; simp [h1, h2]
  have hv : visF ⟨o, p, per, day, st, pr, rep⟩ = (bif decide (st = 1) || decide (st = 2) then decide (1 ≤ pr) && decide (pr ≤ 1099511627776) && decide (rep = [])
    else bif decide (st = 3) || decide (st = 4) then decide (pr = 0) && decide (rep = [])
    else bif decide (st = 5) then decide (1 ≤ pr) && decide (pr ≤ 1099511627776) && validIDF rep && !decide (rep = p) else false) := by
    unfold visF; simp only [h1, Bool.true_and, h2]
  rw [hv]
  have e1 : decide (1 ≤ pr) = !decide (pr < 1) := by by_cases h : pr < 1 <;> simp [h] <;> omega
  have e2 : decide (pr ≤ 1099511627776) = !decide (1099511627776 < pr) := by by_cases h : 1099511627776 < pr <;> simp [h] <;> omega
  rw [e1, e2]
  clear hv h1 h2 e1 e2
  by_cases s1 : st = 1
  · subst s1
    generalize decide (pr < 1) = b1, decide (1099511627776 < pr) = b2, decide (pr = 0) = b3, decide (rep = p) = b4, decide (rep = []) = b5, validIDF rep = b6
    cases b1 <;> cases b2 <;> exact ⟨rfl, rfl⟩
  by_cases s2 : st = 2
  · subst s2
    generalize decide (pr < 1) = b1, decide (1099511627776 < pr) = b2, decide (pr = 0) = b3, decide (rep = p) = b4, decide (rep = []) = b5, validIDF rep = b6
    cases b1 <;> cases b2 <;> exact ⟨rfl, rfl⟩
  by_cases s3 : st = 3
  · subst s3
    generalize decide (pr < 1) = b1, decide (1099511627776 < pr) = b2, decide (pr = 0) = b3, decide (rep = p) = b4, decide (rep = []) = b5, validIDF rep = b6
    cases b3 <;> exact ⟨rfl, rfl⟩
  by_cases s4 : st = 4
  · subst s4
    generalize decide (pr < 1) = b1, decide (1099511627776 < pr) = b2, decide (pr = 0) = b3, decide (rep = p) = b4, decide (rep = []) = b5, validIDF rep = b6
    cases b3 <;> exact ⟨rfl, rfl⟩
  by_cases s5 : st = 5
  · subst s5
    generalize decide (pr < 1) = b1, decide (1099511627776 < pr) = b2, decide (pr = 0) = b3, decide (rep = p) = b4, decide (rep = []) = b5, validIDF rep = b6
    cases b1 <;> cases b2 <;> cases b6 <;> first | exact ⟨rfl, rfl⟩ | exact ⟨trivial, rfl, rfl⟩
  rw [decide_eq_false s1, decide_eq_false s2, decide_eq_false s3, decide_eq_false s4, decide_eq_false s5]
  exact ⟨rfl, rfl⟩
theorem msg_ok (hP : C.P = Tryz.prog) (hL : ∀ w, C.laid w → LaidW w) : SpecOK C 33 S_msg := by
  rintro args objs U Os vc h hvc
  unfold S_msg at h
  split at h <;> simp only [Option.some.injEq, Prod.mk.injEq, reduceCtorEq] at h
  rename_i dev seq kind o p per day st pr rep o2 p2 per2 dev2 num
  obtain ⟨rfl, rfl, rfl⟩ := h
  refine SpecOK.wp0 (prg hP) [(64, .det S_cname), (67, .det S_slot), (66, .det S_visit), (65, .det S_num)] 0 (.cons (cname_ok hP hL) (.cons (slot_ok hP hL) (.cons (visit_ok hP hL) (.cons (cnum_ok hP) .nil)))) (hP ▸ Tryz.func33) rfl rfl rfl ?_
  have nf := fun R => nf_msg ⟨dev, seq, kind, ⟨o, p, per, day, st, pr, rep⟩, ⟨o2, p2, per2, dev2, num⟩⟩ R
  refine (nf _).mpr ?_
  clear nf
  obtain ⟨l1, l2, l3, l4⟩ := hvc
  unfold msgF VT.nil DT.nil
  dsimp only
  generalize (decide (o = []) && (decide (p = []) && (decide (per = 0) && (decide (day = 0) && (decide (st = 0) && (decide (pr = 0) && decide (rep = []))))))) = vn
  generalize (decide (o2 = []) && (decide (p2 = []) && (decide (per2 = 0) && (decide (dev2 = []) && decide (num = 0))))) = dn
  generalize nameF dev = b1, numF seq = b2, visF ⟨o, p, per, day, st, pr, rep⟩ = b3, slotF o2 p2 per2 = b4, nameF dev2 = b5, numF num = b6
  refine ⟨l1, ?_⟩
  cases b1
  · exact ⟨rfl, rfl⟩
  refine ⟨trivial, ?_⟩
  cases b2
  · exact ⟨rfl, rfl⟩
  by_cases k1 : kind = 1
  · subst k1
    refine ⟨l2, ?_⟩
    cases b3 <;> cases dn <;> exact ⟨rfl, rfl⟩
  by_cases k2 : kind = 2
  · subst k2
    cases vn
    · exact ⟨rfl, rfl⟩
    refine ⟨l3, ?_⟩
    cases b4
    · exact ⟨rfl, rfl⟩
    refine ⟨l4, ?_⟩
    cases b5
    · exact ⟨rfl, rfl⟩
    refine ⟨trivial, ?_⟩
    cases b6 <;> exact ⟨rfl, rfl⟩
  rw [decide_eq_false k1, decide_eq_false k2]
  exact ⟨rfl, rfl⟩
end Go.Eng
namespace Go.Eng
open Go.Proofs Go.RowKit
variable {C : Ctx} [C.Loose]
set_option maxRecDepth 20000
theorem nf_mrg (g : Nat → MG) (n : Nat) (h : Nat → MG) (m : Nat) (R : AV → List (Nat × AObj) → Prop) : wpFn te [(72, .rel R_concat), (33, .det S_msg), (73, .rel R_sortM), (75, .rel R_cmpct)] [(3, L_mg (catG (nn2 n m) (gg2 g h) 2) (sumN (nn2 n m) 2))] 0 Tryz.f38 [.view 15 n (mgRow g), .view 15 m (mgRow h)] [] R = (letI z3 := (List.flatten (List.replicate (nat_lit 0) [.nil]) : List AV); letI z2 := catG (nn2 n m) (gg2 g h) 2; letI z1 := (TI.sz (TI.mk (TypeDesc.slice (56 : TypeId)) 1 24 (Value.slice none 0 0) false)); letI z0 := flL z2 (sumN (nn2 n m) 2); (2 ≤ 16777216 ∧ 1 = 1 ∧ 2 ≤ 9223372036854775807) ∧ (∀ (i : Nat), i < 2 → nrefL (chunkA z1 (.view 15 n (mgRow g) :: .view 15 m (mgRow h) :: List.append [] z3) i) = true) ∧ ∃ (nn : Nat → Nat), ∃ (gg : Nat → Nat → MG), 58 = 58 ∧ false = false ∧ 2 = 2 ∧ 2 ≤ 1000 ∧ (∀ (i : Nat), i < 2 → [AV.view 15 (nn i) (mgRow (gg i))] = chunkA z1 (.view 15 n (mgRow g) :: .view 15 m (mgRow h) :: List.append [] z3) i) ∧ sumN nn 2 ≤ 1000000 ∧ (∀ (i : Nat), i < 2 → true = true) ∧ (TEq [(5, .own 0 0), (11, .view 15 (sumN nn 2) (mgRow (catG nn gg 2))), (12, .int .i64 (↑(sumN nn 2) : Int)), (13, .int .i64 0)] [(5, .own 0 0), (11, .view 15 (sumN (nn2 n m) 2) (mgRow z2)), (12, .int .i64 (↑(sumN (nn2 n m) 2) : Int)), (13, .int .i64 (↑0 : Int))] ∧ RowsEq [(0, .row 56 15 0 (fun (_x : Nat) => []) false)] [(0, .row 56 15 0 (mgRow (atM (flL z2 0))) false)]) ∧ sumN (nn2 n m) 2 ≤ 200000 ∧ (∀ (i : Nat), i < sumN (nn2 n m) 2 → MG.Sm (catG (nn2 n m) (gg2 g h) 2 i)) ∧ (∀ (i : Nat), i < List.length z0 → true = true) ∧ 56 = 56 ∧ false = false ∧ List.length z0 = List.length z0 ∧ List.length z0 ≤ 1000000 ∧ mgRow (atM z0) = mgRow (mgOf (mgRow (atM z0))) ∧ ∀ (h_1 : Nat → MG), List.Perm (lst h_1 (List.length z0)) (lst (mgOf (mgRow (atM z0))) (List.length z0)) → (∀ (i j : Nat), i < j → j < List.length z0 → ¬ordM (h_1 j) (h_1 i) < (0 : Int)) → (∀ (i : Nat), i < List.length z0 → true = true) ∧ (∀ (i : Nat), i < List.length z0 → true = true) ∧ 56 = 56 ∧ false = false ∧ List.length z0 = List.length z0 ∧ List.length z0 ≤ 1000000 ∧ mgRow h_1 = mgRow (mgOf (mgRow h_1)) ∧ ∀ (k : Nat) (h_2 : Nat → MG), lst h_2 k = ddL (mgOf (mgRow h_1)) (List.length z0) → (∀ (i : Nat), i < k → true = true) ∧ (∀ (i : Nat), i < k → true = true) ∧ ∃ (O' : List (Nat × AObj)), RowsEq [(0, .row 56 15 k (mgRow h_2) false)] O' ∧ R (.own 0 k) O') := by kernel_rfl
def shrt1 : List AV := (List.flatten (List.replicate (nat_lit 0) [.str ([]), .int .i64 0, .int .i64 0, .str ([]), .str ([]), .int .i64 0, .int .i64 0, .int .i64 0, .int .i64 0, .str ([]), .str ([]), .str ([]), .int .i64 0, .str ([]), .int .i64 0]))
theorem nf_mg_round (g : Nat → MG) (n k : Nat) (P : Nat → Prop) (R : Exit → St → Prop) : roundP ⟨te, [(33, .det S_msg)], [], 0, 29, 0⟩ (loopB Tryz.f38 3) [5, 11, 12, 13] [5] [] (S_mg g n) P R (S_mg g n k) = (letI z2 := List.length (flL g k) + 1; letI z1 := List.length (flL g k); letI z3 := ([(0, .row 56 15 z1 (mgRow (atM (flL g k))) false)] : List (Nat × AObj)); letI z0 := (g (Int.toNat (↑k : Int))); condP (decide ((↑k : Int) < (↑n : Int))) (((0 : Int) ≤ (↑k : Int) ∧ (↑k : Int) < (↑n : Int) ∧ 15 = 15) ∧ (List.length (MG.dev z0) < 4294967281 ∧ List.length (VT.o (MG.v z0)) < 4294967281 ∧ List.length (DT.o (MG.d z0)) < 4294967281 ∧ List.length (DT.dev (MG.d z0)) < 4294967281) ∧ condP (decide (msgF (MG.mk (MG.dev z0) (MG.seq z0) (MG.kind z0) (VT.mk (VT.o (MG.v z0)) (VT.p (MG.v z0)) (VT.per (MG.v z0)) (VT.day (MG.v z0)) (VT.st (MG.v z0)) (VT.pr (MG.v z0)) (VT.rep (MG.v z0))) (DT.mk (DT.o (MG.d z0)) (DT.p (MG.d z0)) (DT.per (MG.d z0)) (DT.dev (MG.d z0)) (DT.num (MG.d z0)))) = (0 : Int))) ((15 ≤ 16777216 ∧ 15 = 15 ∧ 1 ≤ 9223372036854775807) ∧ ((1 ≤ 1 ∧ 15 = 15) ∧ List.length (flL g k) ≤ List.length (flL g k) ∧ 15 = 15 ∧ 56 = 56 ∧ 15 = 15 ∧ List.length (flL g k) + 1 ≤ 9223372036854775807 ∧ z2 * TI.bytes shrt0 ≤ 140737488355328) ∧ inR .i64 ((↑k : Int) + (1 : Int)) ∧ ∃ (i' : Nat), (TEq [(5, .own 0 z2), (11, .view 15 n (mgRow g)), (12, .int .i64 (↑n : Int)), (13, .int .i64 ((↑k : Int) + (1 : Int)))] [(5, .own 0 (List.length (flL g i'))), (11, .view 15 n (mgRow g)), (12, .int .i64 (↑n : Int)), (13, .int .i64 (↑i' : Int))] ∧ RowsEq [(0, .row 56 15 z2 (apF z1 (mgRow (atM (flL g k))) (chunkA (TI.sz shrt0) (.str (MG.dev z0) :: .int .i64 (MG.seq z0) :: .int .i64 (MG.kind z0) :: .str (VT.o (MG.v z0)) :: .str (VT.p (MG.v z0)) :: .int .i64 (VT.per (MG.v z0)) :: .int .i64 (VT.day (MG.v z0)) :: .int .i64 (VT.st (MG.v z0)) :: .int .i64 (VT.pr (MG.v z0)) :: .str (VT.rep (MG.v z0)) :: .str (DT.o (MG.d z0)) :: .str (DT.p (MG.d z0)) :: .int .i64 (DT.per (MG.d z0)) :: .str (DT.dev (MG.d z0)) :: .int .i64 (DT.num (MG.d z0)) :: List.append [] shrt1))) false)] [(0, .row 56 15 (List.length (flL g i')) (mgRow (atM (flL g i'))) false)]) ∧ P i') (inR .i64 ((↑k : Int) + (1 : Int)) ∧ ∃ (i' : Nat), (TEq [(5, .own 0 z1), (11, .view 15 n (mgRow g)), (12, .int .i64 (↑n : Int)), (13, .int .i64 ((↑k : Int) + (1 : Int)))] [(5, .own 0 (List.length (flL g i'))), (11, .view 15 n (mgRow g)), (12, .int .i64 (↑n : Int)), (13, .int .i64 (↑i' : Int))] ∧ RowsEq z3 [(0, .row 56 15 (List.length (flL g i')) (mgRow (atM (flL g i'))) false)]) ∧ P i')) ((∀ (i : Nat), i < List.length (flL g k) → true = true) ∧ ∃ (O' : List (Nat × AObj)), RowsEq z3 O' ∧ R (.exit 0) (St.mk [(5, .own 0 z1)] O' 1 []))) := by kernel_rfl
theorem ddL_sorted {h : Nat → MG} {n : Nat} (hs : ∀ i j, i < j → j < n → ¬ ordM (h j) (h i) < 0) : Asc ordM (ddL h n) ∧ ∀ x, x ∈ ddL h n ↔ x ∈ lst h n := by
  have le : ∀ i j, i < j → j < n → ordM (h i) (h j) ≤ 0 := fun i j hij hj => by
    have := hs i j hij hj
    rw [ordM_preC.neg] at this
    omega
  have nk : ∀ j, 0 < j → keepF h j = true → h j ≠ h (j - 1) := fun j hj hk e => by
    rw [keepF_pos hj, eqM_iff.2 e] at hk; cases hk
  refine ⟨?_, fun x => ⟨fun hx => ?_, fun hx => ?_⟩⟩
  · unfold Asc ddL
    refine List.pairwise_map.2 ((List.pairwise_lt_range.filter _).imp_of_mem fun {i j} hi hj hij => ?_)
    obtain ⟨hjn, hjk⟩ := List.mem_filter.1 hj
    have hjn := List.mem_range.1 hjn
    have l1 := le i j hij hjn
    rcases Int.lt_or_eq_of_le l1 with h0 | h0
    · exact h0
    · exfalso
      have e := ordM_zero.1 h0
      refine nk j (by omega) hjk ?_
      by_cases q : i = j - 1
      · rw [← q, e]
      · have l2 := le i (j - 1) (by omega) (by omega)
        have l3 := le (j - 1) j (by omega) hjn
        rw [e] at l2
        have := ordM_preC.neg (h (j - 1)) (h j)
        exact ordM_zero.1 (by omega)
  · unfold ddL at hx
    obtain ⟨i, hi, rfl⟩ := List.mem_map.1 hx
    exact List.mem_map.2 ⟨i, (List.mem_filter.1 hi).1, rfl⟩
  · obtain ⟨i, hi, rfl⟩ := List.mem_map.1 hx
    have key : ∀ i, i < n → h i ∈ ddL h n := fun i => by
      induction i with
      | zero => intro hi; exact List.mem_map.2 ⟨0, List.mem_filter.2 ⟨List.mem_range.2 hi, rfl⟩, rfl⟩
      | succ i ih =>
        intro hi
        cases q : keepF h (i + 1) with
        | true => exact List.mem_map.2 ⟨i + 1, List.mem_filter.2 ⟨List.mem_range.2 hi, q⟩, rfl⟩
        | false =>
          rw [keepF_pos (Nat.succ_pos i)] at q
          have e : eqM (h (i + 1)) (h i) = true := by
            have : i + 1 - 1 = i := rfl
            rw [this] at q
            cases r : eqM (h (i + 1)) (h i) with
            | true => rfl
            | false => rw [r] at q; cases q
          rw [eqM_iff.1 e]
          exact ih (by omega)
    exact key i (List.mem_range.1 hi)
theorem lst_atM (L : List MG) : lst (atM L) L.length = L := by
  apply List.ext_getElem
  · simp [lst]
  · intro i h1 h2
    simp [lst, atM, h2]
theorem lst_isM {g : Nat → MG} {L : List MG} {n : Nat} (h : lst g n = L) : n = L.length ∧ ∀ i, i < n → g i = atM L i := by
  subst h
  refine ⟨by simp [lst], fun i hi => ?_⟩
  simp [lst, atM, hi]
theorem flL_succ (g : Nat → MG) (k : Nat) : flL g (k + 1) = flL g k ++ bif okM (g k) then [g k] else [] := by
  unfold flL
  rw [lst_snocM, List.filter_append]
  cases h : okM (g k) <;> simp [h]
theorem flL_len (g : Nat → MG) (k : Nat) : (flL g k).length ≤ k := by
  have := List.length_filter_le okM (lst g k)
  have e : (lst g k).length = k := by simp [lst]
  unfold flL; omega
theorem cat2 (g : Nat → MG) (n : Nat) (h : Nat → MG) (m : Nat) : sumN (nn2 n m) 2 = n + m ∧ lst (catG (nn2 n m) (gg2 g h) 2) (n + m) = lst g n ++ lst h m ∧ ∀ i, i < n + m → (i < n ∧ catG (nn2 n m) (gg2 g h) 2 i = g i) ∨ (i - n < m ∧ n ≤ i ∧ catG (nn2 n m) (gg2 g h) 2 i = h (i - n)) := by
  have s1 : sumN (nn2 n m) 1 = n := by simp [sumN, nn2]
  have at1 : ∀ i, i < n + m → (i < n ∧ catG (nn2 n m) (gg2 g h) 2 i = g i) ∨ (i - n < m ∧ n ≤ i ∧ catG (nn2 n m) (gg2 g h) 2 i = h (i - n)) := fun i hi => by
    by_cases q : i < n
    · refine .inl ⟨q, ?_⟩
      rw [catG, s1, if_pos q, catG]
      have : sumN (nn2 n m) 0 = 0 := rfl
      rw [this, if_neg (by omega)]
      rfl
    · refine .inr ⟨by omega, by omega, ?_⟩
      rw [catG, s1, if_neg q]
      rfl
  refine ⟨by rw [sumN, s1]; rfl, ?_, at1⟩
  apply List.ext_getElem
  · simp [lst]
  · intro i h1 h2
    have hi : i < n + m := by simpa [lst] using h1
    rcases at1 i hi with ⟨q, e⟩ | ⟨q1, q2, e⟩
    · rw [List.getElem_append_left (by simp [lst, q])]
      simp [lst, e]
    · rw [List.getElem_append_right (by simp [lst, q2])]
      simp [lst, e]
theorem mg_loop (hP : C.P = Tryz.prog) (hL : ∀ w, C.laid w → LaidW w) (g : Nat → MG) (n : Nat) : LoopOK C 0 29 (loopC Tryz.f38 3) (L_mg g n) := by
  rintro st Q ⟨h0, hn, hs, hQ⟩
  refine AWP.ownNil 5 56 15 ?_
  refine LoopOK.mk (prg hP) [(33, .det S_msg)] 0 (.cons (msg_ok hP hL) .nil) [5, 11, 12, 13] [5] [] (S_mg g n) (fun k => k ≤ n) (fun k => n - k) 0 (Nat.zero_le _) h0 (fun k hk => ?_) (fun i => ⟨fun _ _ => rfl, trivial⟩)
  rw [nf_mg_round, Int.toNat_natCast]
  have hlen := flL_len g k
  have hsu := flL_succ g k
  refine condP_dec (fun h1 => ?_) (fun h1 => ?_)
  · have hk := hs k (by omega)
    refine ⟨⟨by omega, by omega, rfl⟩, ⟨hk.a, hk.b, hk.c, hk.d⟩, condP_dec (fun q => ?_) (fun q => ?_)⟩
    · have q : msgF (g k) = 0 := q
      have e : flL g (k + 1) = flL g k ++ [g k] := by rw [hsu, show okM (g k) = true from decide_eq_true q]; rfl
      refine ⟨⟨by omega, rfl, by omega⟩, ⟨⟨Nat.le_refl _, rfl⟩, Nat.le_refl _, rfl, rfl, rfl, by omega, ?_⟩, by simp only [inR]; omega, k + 1, ?_, by omega, by omega⟩
      · show ((flL g k).length + 1) * 176 ≤ _
        omega
      · rw [e, List.length_append]
        refine ⟨rfl, ⟨rfl, rfl, rfl, rfl, rfl, fun j hj => ?_⟩, trivial⟩
        generalize flL g k = L at *
        unfold apF
        by_cases h : j < L.length
        · rw [if_pos h]
          have : atM (L ++ [g k]) j = atM L j := by simp [atM, List.getD_eq_getElem?_getD, List.getElem?_append_left h]
          unfold mgRow
          rw [this]
        · have hj : j = L.length := by omega
          subst hj
          rw [if_neg h, Nat.sub_self]
          have : atM (L ++ [g k]) L.length = g k := by simp [atM]
          unfold mgRow
          rw [this]; rfl
    · have q : ¬ msgF (g k) = 0 := q
      have e : flL g (k + 1) = flL g k := by rw [hsu, show okM (g k) = false from decide_eq_false q]; simp
      refine ⟨by simp only [inR]; omega, k + 1, ?_, by omega, by omega⟩
      rw [e]
      exact ⟨rfl, ⟨rfl, rfl, rfl, rfl, rfl, fun _ _ => rfl⟩, trivial⟩
  · have : k = n := by omega
    subst this
    exact ⟨fun _ _ => rfl, _, rowsEqR _, hQ⟩
theorem mrg_ok (hP : C.P = Tryz.prog) (hL : ∀ w, C.laid w → LaidW w) : SpecOK C 38 S_mrg := by
  rintro args objs U Os vc hh hvc
  unfold S_mrg at hh
  split at hh <;> simp only [Option.some.injEq, Prod.mk.injEq, reduceCtorEq] at hh
  rename_i n f m h
  obtain ⟨rfl, rfl, rfl⟩ := hh
  obtain ⟨hn, hm, hf, hh, s1, s2⟩ := hvc
  generalize mgOf f = g at *
  generalize mgOf h = j at *
  subst hf; subst hh
  refine SpecOK.wpL (prg hP) [(72, .rel R_concat), (33, .det S_msg), (73, .rel R_sortM), (75, .rel R_cmpct)] [(3, L_mg (catG (nn2 n m) (gg2 g j) 2) (sumN (nn2 n m) 2))] 0 (.cons (concat_ok hP) (.cons (msg_ok hP hL) (.cons (sortM_ok hP) (.cons (cmpct_ok hP) .nil)))) (hP ▸ Tryz.func38) rfl rfl rfl [(loopC Tryz.f38 3, L_mg (catG (nn2 n m) (gg2 g j) 2) (sumN (nn2 n m) 2))] (by kernel_rfl) ⟨mg_loop hP hL _ _, trivial⟩ ?_
  rw [nf_mrg]
  obtain ⟨c1, c2, c3⟩ := cat2 g n j m
  have two : ∀ {p : Nat → Prop}, p 0 → p 1 → ∀ i, i < 2 → p i := fun h0 h1 i hi => by
    match i, hi with
    | 0, _ => exact h0
    | 1, _ => exact h1
  have sm : ∀ i, i < n + m → (catG (nn2 n m) (gg2 g j) 2 i).Sm := fun i hi => by
    rcases c3 i hi with ⟨q, e⟩ | ⟨q1, q2, e⟩
    · rw [e]; exact s1 i q
    · rw [e]; exact s2 _ q1
  refine ⟨⟨by omega, rfl, by omega⟩, two rfl rfl, nn2 n m, gg2 g j, rfl, rfl, rfl, by omega, two rfl rfl, by rw [c1]; omega, two rfl rfl, ⟨rfl, ⟨rfl, rfl, rfl, rfl, rfl, fun i hi => absurd hi (Nat.not_lt_zero i)⟩, trivial⟩, ?_⟩
  have hfl : flL (catG (nn2 n m) (gg2 g j) 2) (n + m) = (lst g n ++ lst j m).filter okM := by unfold flL; rw [c2]
  have hlen := flL_len (catG (nn2 n m) (gg2 g j) 2) (n + m)
  have hLd : mrgL g n j m = mrgF (lst g n ++ lst j m) := rfl
  rw [c1]
  generalize catG (nn2 n m) (gg2 g j) 2 = cc at *
  generalize hF : flL cc (n + m) = Fl at *
  refine ⟨by omega, sm, fun _ _ => rfl, rfl, rfl, rfl, by omega, rfl, fun h1 hp hs => ⟨fun _ _ => rfl, fun _ _ => rfl, rfl, rfl, rfl, by omega, rfl, fun k h2 hd => ?_⟩⟩
  have hp : (lst h1 Fl.length).Perm (lst (atM Fl) Fl.length) := hp
  have hd : lst h2 k = ddL h1 Fl.length := hd
  rw [lst_atM] at hp
  obtain ⟨a1, a2⟩ := ddL_sorted hs
  have hM : ddL h1 Fl.length = mrgL g n j m := by
    refine mrgF_uniq a1 fun x => ?_
    rw [a2, hp.mem_iff, hfl, List.mem_filter]
    unfold okM
    rw [decide_eq_true_eq]
  rw [hM] at hd
  show _ ∧ _ ∧ ∃ O', RowsEq _ O' ∧ AV.own 0 k = .own 0 (mrgL g n j m).length ∧ O' = [(0, .row 56 15 (mrgL g n j m).length (mgRow (atM (mrgL g n j m))) false)]
  generalize mrgL g n j m = M at *
  obtain ⟨rfl, hat⟩ := lst_isM hd
  refine ⟨fun _ _ => rfl, fun _ _ => rfl, [(0, .row 56 15 M.length (mgRow (atM M)) false)], ⟨⟨rfl, rfl, rfl, rfl, rfl, fun i hi => ?_⟩, trivial⟩, rfl, rfl⟩
  unfold mgRow
  rw [hat i hi]
end Go.Eng
namespace Go.Eng
end Go.Eng
namespace Go.Eng
end Go.Eng
namespace Go.Eng
def S_slotR : Spec
  | [.str o, .str p, .int .i64 per], [] => some (.bool (slotF o p per), [], o.length < 4294967281)
  | _, _ => none
def S_period : Spec
  | [.int .i64 p], [] => some (.bool (decide (0 ≤ p) && decide (p ≤ 5999)), [], True)
  | _, _ => none
structure RX where
  k : Nat
  L : List RW
end Go.Eng
namespace Go.Eng
def S_decR : Spec
  | [.agg [.str o, .str p, .int .i64 per, .str dev, .int .i64 num]], [] => some (.bool (slotF o p per && (nameF dev && numF num)), [], o.length < 4294967281 ∧ dev.length < 4294967281)
  | _, _ => none
end Go.Eng
namespace Go.Eng
end Go.Eng
namespace Go.Eng
structure MgS where
  c : Nat
  g : Nat → MG
  a : Int
def MG.put (g : Nat → MG) (k : Nat) (r : MG) (i : Nat) : MG := if i < k then g i else r
def cutM (g : Nat → MG) (i : Nat) : MG := ⟨(g i).dev.take 30, (g i).seq, (g i).kind, ⟨(g i).v.o.take 30, (g i).v.p.take 30, (g i).v.per, (g i).v.day, (g i).v.st, (g i).v.pr, (g i).v.rep.take 30⟩, ⟨(g i).d.o.take 30, (g i).d.p.take 30, (g i).d.per, (g i).d.dev.take 30, (g i).d.num⟩⟩
def S_rw11 (g : Nat → MG) (n k : Nat) : St := ⟨[(3, .own 0 k), (10, .view 15 n (mgRow g)), (11, .int .i64 n), (12, .int .i64 k)], [(0, .row 56 15 k (mgRow (cutM g)) false)], 1, []⟩
def L_rw11 (g : Nat → MG) (n : Nat) : LSpec := fun st Q => canonIs te 0 [3, 10, 11, 12] (ownNil 3 56 15 st) (S_rw11 g n 0) ∧ n ≤ 12 ∧ Q (.exit 0) ⟨[(3, .own 0 n)], [(0, .row 56 15 n (mgRow (cutM g)) false)], 1, []⟩
def S_raw11 : Spec
  | [.view 15 n f], [] => some (.view 15 (min n 12) (mgRow (cutM (mgOf f))), [], f = mgRow (mgOf f))
  | _, _ => none
structure RE (f : Nat → List AV) (n : Nat) : Prop where
  eq : ∀ i, i < n → f i = mgRow (mgOf f) i
structure RM (f : Nat → List AV) (n : Nat) : Prop where
  eq : ∀ i, i < n → f i = mgRow (mgOf f) i
  sm : ∀ i, i < n → (mgOf f i).Sm
def S_raw11O : Spec
  | [.own 0 n], [.row _ 15 m f _] => some (.view 15 (min n 12) (mgRow (cutM (mgOf f))), [], n = m ∧ RE f n)
  | _, _ => none
def R_sp11 : RSpec
  | [.ptr 0 0], [.cells [.view sz n f, .int .i64 a] t], R => t = 28 ∧ sz = 1 ∧ f = intRow (vInt f) ∧ (0 ≤ a ∧ a ≤ 4611686018427380000) ∧
      ∀ (m : MG) (a' : Int), m.Sm → (a ≤ a' ∧ a' ≤ a + 12) →
      R (.agg [.str m.dev, .int .i64 m.seq, .int .i64 m.kind, .str m.v.o, .str m.v.p, .int .i64 m.v.per, .int .i64 m.v.day, .int .i64 m.v.st, .int .i64 m.v.pr, .str m.v.rep, .str m.d.o, .str m.d.p, .int .i64 m.d.per, .str m.d.dev, .int .i64 m.d.num]) [(0, .cells [.view 1 n f, .int .i64 a'] 28)]
  | _, _, _ => False
def S_awake11 : Spec
  | [], [] => some (.bool true, [], True)
  | _, _ => none
def S_resolveO : Spec
  | [.own 0 n, .str o, .str p, .int .i64 per], [.row _ 15 m f _] =>
      some (.tuple [.agg [.str (resF (mgOf f) n o p per).1.o, .str (resF (mgOf f) n o p per).1.p, .int .i64 (resF (mgOf f) n o p per).1.per, .int .i64 (resF (mgOf f) n o p per).1.day, .int .i64 (resF (mgOf f) n o p per).1.st, .int .i64 (resF (mgOf f) n o p per).1.pr, .str (resF (mgOf f) n o p per).1.rep], .int .i64 (resF (mgOf f) n o p per).2], [],
        n = m ∧ n ≤ 100000 ∧ RM f n)
  | _, _ => none
end Go.Eng
namespace Go.Eng
structure LiS where
  j : Nat
  c : Nat
  g : Nat → MG
  a : Int
structure TrS where
  k : Nat
  L : List MG
  a : Int
end Go.Eng
