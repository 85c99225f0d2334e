/- Messages of a tape. -/
import Derived.Test.YtokpcnppihgdlaaGreatDoorLn
import Derived.Test.YtokpcnppihgdlaaGreatDoorLs
import Derived.Test.YtokpcnppihgdlaaGreatDoorLp
namespace Go.Eng
open Go.Proofs Go.RowKit
set_option maxRecDepth 20000
theorem nf_nameR (s : List UInt8) (R : AV → List (Nat × AObj) → Prop) : wpFn te [] [(2, L_nameR s)] 0 Tryz.f68 [.str s] [] R = (letI z0 := (↑(List.length s) : Int); some (St.mk [(0, .str s), (6, .int .i64 z0), (7, .int .i64 0)] [] 0 []) = some (St.mk [(0, .str s), (6, .int .i64 z0), (7, .int .i64 (↑0 : Int))] [] 0 []) ∧ ((∀ (k : Nat), k < List.length s → OKat s k) → condP (decide ((1 : Int) ≤ z0)) (R (.bool (decide (z0 ≤ (24 : Int)))) []) (R (.bool false) [])) ∧ ∀ (k : Nat), k < List.length s → ¬OKat s k → R (.bool false) []) := by kernel_rfl
theorem nf_nameR_round (s : List UInt8) (k : Nat) (P : Nat → Prop) (R : Exit → St → Prop) : roundP ⟨te, [], [], 0, 59, 0⟩ (loopB Tryz.f68 2) [0, 6, 7] [0] [2] (S_nrState s) P R (S_nrState s k) = (letI z4 := R .ret (St.mk [(2, .bool false)] [] 0 []); letI z3 := (↑(List.length s) : Int); letI z2 := (↑(UInt8.toNat (List.getD s (Int.toNat (↑k : Int)) (0 : UInt8))) : Int); letI z1 := (inR .i64 ((↑k : Int) + (1 : Int)) ∧ ∃ (i' : Nat), some (St.mk [(0, .str s), (6, .int .i64 z3), (7, .int .i64 ((↑k : Int) + (1 : Int)))] [] 0 []) = some (St.mk [(0, .str s), (6, .int .i64 z3), (7, .int .i64 (↑i' : Int))] [] 0 []) ∧ P i'); letI z0 := (condP (decide ((↑k : Int) = (0 : Int))) z4 (((0 : Int) ≤ (↑k : Int) ∧ (↑k : Int) < z3) ∧ condP (!decide (z2 = (45 : Int))) (((0 : Int) ≤ (↑k : Int) ∧ (↑k : Int) < z3) ∧ condP (!decide (z2 = (46 : Int))) z4 z1) z1)); condP (decide ((↑k : Int) < z3)) (((0 : Int) ≤ (↑k : Int) ∧ (↑k : Int) < z3) ∧ condP (decide ((97 : Int) ≤ z2)) (((0 : Int) ≤ (↑k : Int) ∧ (↑k : Int) < z3) ∧ condP (decide (z2 ≤ (122 : Int))) z1 (((0 : Int) ≤ (↑k : Int) ∧ (↑k : Int) < z3) ∧ condP (decide ((48 : Int) ≤ z2)) (((0 : Int) ≤ (↑k : Int) ∧ (↑k : Int) < z3) ∧ condP (!decide (z2 ≤ (57 : Int))) z0 z1) z0)) (((0 : Int) ≤ (↑k : Int) ∧ (↑k : Int) < z3) ∧ condP (decide ((48 : Int) ≤ z2)) (((0 : Int) ≤ (↑k : Int) ∧ (↑k : Int) < z3) ∧ condP (!decide (z2 ≤ (57 : Int))) z0 z1) z0)) (R (.exit 0) (St.mk [(0, .str s)] [] 0 []))) := by kernel_rfl
theorem nf_cdR (s : List UInt8) (R : AV → List (Nat × AObj) → Prop) : wpFn te [] [(5, L_checkDigitR s)] 0 Tryz.f85 [.str s] [] R = (letI z2 := R (.tuple [.int .i64 0, .bool false]) []; letI z1 := (↑(List.length s) : Int); letI z0 := (some (St.mk [(0, .str s), (4, .int .i64 0), (16, .int .i64 z1), (17, .int .i64 0)] [] 0 []) = some (St.mk [(0, .str s), (4, .int .i64 (cdSum s 0)), (16, .int .i64 z1), (17, .int .i64 (↑0 : Int))] [] 0 []) ∧ List.length s ≤ 12 ∧ condP (List.all s isDig) ((10 : Int) ≠ (0 : Int) ∧ inR .i64 ((10 : Int) - Int.tmod (cdSum s (List.length s)) (10 : Int)) ∧ (10 : Int) ≠ (0 : Int) ∧ R (.tuple [.int .i64 (Int.tmod ((10 : Int) - Int.tmod (cdSum s (List.length s)) (10 : Int)) (10 : Int)), .bool true]) []) z2); condP (!decide (z1 = (7 : Int))) (condP (!decide (z1 = (12 : Int))) z2 z0) z0) := by kernel_rfl
theorem nf_cdR_round (s : List UInt8) (k : Nat) (P : Nat → Prop) (R : Exit → St → Prop) : roundP ⟨te, [], [], 0, 50, 0⟩ (loopB Tryz.f85 5) [0, 4, 16, 17] [4] [2, 3] (S_cdrState s) P R (S_cdrState s k) = (letI z2 := R .ret (St.mk [(2, .int .i64 0), (3, .bool false)] [] 0 []); letI z1 := (↑(List.length s) : Int); letI z0 := (↑(UInt8.toNat (List.getD s (Int.toNat (↑k : Int)) (0 : UInt8))) : Int); letI z4 := (cdSum s k + (1 : Int) * ((z0 - (48 : Int)) % (256 : Int))); letI z3 := (cdSum s k + (3 : Int) * ((z0 - (48 : Int)) % (256 : Int))); condP (decide ((↑k : Int) < z1)) (((0 : Int) ≤ (↑k : Int) ∧ (↑k : Int) < z1) ∧ condP (decide (z0 < (48 : Int))) z2 (((0 : Int) ≤ (↑k : Int) ∧ (↑k : Int) < z1) ∧ condP (decide ((57 : Int) < z0)) z2 (inR .i64 (z1 - (↑k : Int)) ∧ (2 : Int) ≠ (0 : Int) ∧ condP (decide (Int.tmod (z1 - (↑k : Int)) (2 : Int) = (1 : Int))) (((0 : Int) ≤ (↑k : Int) ∧ (↑k : Int) < z1) ∧ inR .i64 ((z0 - (48 : Int)) % (256 : Int)) ∧ inR .i64 ((3 : Int) * ((z0 - (48 : Int)) % (256 : Int))) ∧ inR .i64 z3 ∧ inR .i64 ((↑k : Int) + (1 : Int)) ∧ ∃ (i' : Nat), some (St.mk [(0, .str s), (4, .int .i64 z3), (16, .int .i64 z1), (17, .int .i64 ((↑k : Int) + (1 : Int)))] [] 0 []) = some (St.mk [(0, .str s), (4, .int .i64 (cdSum s i')), (16, .int .i64 z1), (17, .int .i64 (↑i' : Int))] [] 0 []) ∧ P i') (((0 : Int) ≤ (↑k : Int) ∧ (↑k : Int) < z1) ∧ inR .i64 ((z0 - (48 : Int)) % (256 : Int)) ∧ inR .i64 ((1 : Int) * ((z0 - (48 : Int)) % (256 : Int))) ∧ inR .i64 z4 ∧ inR .i64 ((↑k : Int) + (1 : Int)) ∧ ∃ (i' : Nat), some (St.mk [(0, .str s), (4, .int .i64 z4), (16, .int .i64 z1), (17, .int .i64 ((↑k : Int) + (1 : Int)))] [] 0 []) = some (St.mk [(0, .str s), (4, .int .i64 (cdSum s i')), (16, .int .i64 z1), (17, .int .i64 (↑i' : Int))] [] 0 []) ∧ P i')))) (R (.exit 0) (St.mk [(4, .int .i64 (cdSum s k))] [] 0 []))) := by kernel_rfl
theorem nf_validIDR (s : List UInt8) (R : AV → List (Nat × AObj) → Prop) : wpFn te [(85, .det S_checkDigit)] [] 0 Tryz.f99 [.str s] [] R = (letI z1 := (↑(List.length s) : Int); letI z2 := (cdF (List.take (Int.toNat (z1 - (1 : Int))) s)); letI z0 := (inR .i64 (z1 - (1 : Int)) ∧ ((0 : Int) ≤ z1 - (1 : Int) ∧ z1 - (1 : Int) ≤ z1) ∧ True ∧ condP (Prod.snd z2) (inR .i64 (z1 - (1 : Int)) ∧ ((0 : Int) ≤ z1 - (1 : Int) ∧ z1 - (1 : Int) < z1) ∧ inR .i64 ((48 : Int) + Prod.fst z2) ∧ inR .u8 ((48 : Int) + Prod.fst z2) ∧ R (.bool (decide ((↑(UInt8.toNat (List.getD s (Int.toNat (z1 - (1 : Int))) (0 : UInt8))) : Int) = (48 : Int) + Prod.fst z2))) []) (R (.bool false) [])); condP (!decide (z1 = (8 : Int))) (condP (!decide (z1 = (13 : Int))) (R (.bool false) []) z0) z0) := by kernel_rfl
variable {C : Ctx} [C.Loose]
theorem nameR_loop (hP : C.P = Tryz.prog) (s : List UInt8) (hm : s.length ≤ 9223372036854775806) : LoopOK C 0 59 (loopC Tryz.f68 2) (L_nameR s) := by
  have _ : C.Loose := inferInstance
  rintro st Q ⟨h0, hQ1, hQ2⟩
  refine LoopOK.mk (prg hP) [] 0 .nil [0, 6, 7] [0] [2] (S_nrState s) (fun k => k ≤ s.length ∧ ∀ j, j < k → OKat s j) (fun k => s.length - k) 0 ⟨Nat.zero_le _, fun j h => by omega⟩ h0 fun k ⟨hk, hall⟩ => ?_
  rw [nf_nameR_round]
  refine condP_dec (fun h => ?_) (fun h => ?_)
  · have hlt : k < s.length := by omega
    have hret : ¬ OKat s k → Q .ret ⟨[(2, .bool false)], [], 0, []⟩ := hQ2 k hlt
    have hgo : OKat s k → ∃ i' : Nat, some (St.mk [(0, .str s), (6, .int .i64 (s.length : Int)), (7, .int .i64 ((k : Int) + 1))] [] 0 []) = some (St.mk [(0, .str s), (6, .int .i64 (s.length : Int)), (7, .int .i64 (i' : Int))] [] 0 []) ∧ (i' ≤ s.length ∧ ∀ j, j < i' → OKat s j) ∧ s.length - i' < s.length - k := fun hok =>
      ⟨k + 1, rfl, ⟨by omega, fun j hj => by
        rcases Nat.lt_succ_iff_lt_or_eq.1 hj with hj | rfl
        · exact hall j hj
        · exact hok⟩, by omega⟩
    unfold OKat at hret hgo
    simp only [Int.toNat_natCast, inR]
    repeat' (first | (refine condP_dec (fun _ => ?_) (fun _ => ?_)) | (refine condP_ndec (fun _ => ?_) (fun _ => ?_)) | (refine And.intro (by omega) ?_) | fail)
    all_goals (first | exact hret (by omega) | exact hgo (by omega))
  · exact hQ1 fun j hj => hall j (by omega)
theorem nameR_ok (hP : C.P = Tryz.prog) : SpecOK C 68 S_nameR := by
  rintro args objs U Os vc h hvc
  unfold S_nameR at h
  split at h <;> simp only [Option.some.injEq, Prod.mk.injEq, reduceCtorEq] at h
  rename_i s
  obtain ⟨rfl, rfl, rfl⟩ := h
  refine SpecOK.wpL (prg hP) [] [(2, L_nameR s)] 0 .nil (hP ▸ Tryz.func68) rfl rfl rfl [(loopC Tryz.f68 2, L_nameR s)] (by kernel_rfl) ⟨nameR_loop hP s hvc, trivial⟩ ?_
  rw [nf_nameR]
  refine ⟨rfl, fun hall => condP_dec (fun h1 => ⟨congrArg AV.bool ?_, rfl⟩) (fun h1 => ⟨congrArg AV.bool ?_, rfl⟩), fun k hk hno => ⟨congrArg AV.bool ?_, rfl⟩⟩
  · by_cases h2 : s.length ≤ 24
    · rw [(nameF_iff s).2 ⟨⟨by omega, h2⟩, hall⟩]; exact decide_eq_true (by omega)
    · rw [decide_eq_false (by omega)]
      cases hn : nameF s with
      | false => rfl
      | true => exact absurd ((nameF_iff s).1 hn).1.2 h2
  · cases hn : nameF s with
    | false => rfl
    | true => exact absurd ((nameF_iff s).1 hn).1.1 (by omega)
  · cases hn : nameF s with
    | false => rfl
    | true => exact absurd (((nameF_iff s).1 hn).2 k hk) hno
theorem cdR_loop (hP : C.P = Tryz.prog) (s : List UInt8) : LoopOK C 0 50 (loopC Tryz.f85 5) (L_checkDigitR s) := by
  have _ : C.Loose := inferInstance
  rintro st Q ⟨h0, hlen, hQ⟩
  have hQ := condP_elim hQ
  refine LoopOK.mk (prg hP) [] 0 .nil [0, 4, 16, 17] [4] [2, 3] (S_cdrState s) (fun k => k ≤ s.length ∧ ∀ j, j < k → 48 ≤ (s.getD j 0).toNat ∧ (s.getD j 0).toNat ≤ 57) (fun k => s.length - k) 0 ⟨Nat.zero_le _, fun j h => by omega⟩ h0 fun k ⟨hk, hall⟩ => ?_
  rw [nf_cdR_round]
  have hb := cdSum_boundk k hk hall
  refine condP_dec (fun h => ?_) (fun h => ?_)
  · have hlt : k < s.length := by omega
    have hret : ¬ (48 ≤ (s.getD k 0).toNat ∧ (s.getD k 0).toNat ≤ 57) → Q .ret ⟨[(2, .int .i64 0), (3, .bool false)], [], 0, []⟩ := fun hno => hQ.2 (by
      cases ha : s.all isDig with
      | false => rfl
      | true => exact absurd (isDig_at ha k hlt) hno)
    have e : Int.tmod (↑s.length - ↑k) 2 = (↑s.length - ↑k) % 2 := Int.tmod_eq_emod_of_nonneg (by omega)
    have hs : cdSum s (k + 1) = cdSum s k + (1 + 2 * ((↑s.length - ↑k) % 2)) * (↑(s.getD k 0).toNat - 48) := rfl
    have hgo : (48 ≤ (s.getD k 0).toNat ∧ (s.getD k 0).toNat ≤ 57) → (k + 1 ≤ s.length ∧ ∀ j, j < k + 1 → 48 ≤ (s.getD j 0).toNat ∧ (s.getD j 0).toNat ≤ 57) ∧ s.length - (k + 1) < s.length - k := fun hok =>
      ⟨⟨by omega, fun j hj => by
        rcases Nat.lt_succ_iff_lt_or_eq.1 hj with hj | rfl
        · exact hall j hj
        · exact hok⟩, by omega⟩
    simp only [Int.toNat_natCast, inR, e]
    refine ⟨by omega, condP_dec (fun h1 => hret (by omega)) (fun h1 => ⟨by omega, condP_dec (fun h2 => hret (by omega)) (fun h2 => ⟨by omega, by omega, ?_⟩)⟩)⟩
    have hgo := hgo (by omega)
    have e3 : ((s.getD k 0).toNat - 48 : Int) % 256 = (s.getD k 0).toNat - 48 := by omega
    rw [e3]
    refine condP_dec (fun h3 => ?_) (fun h3 => ?_)
    · rw [h3] at hs
      exact ⟨by omega, by omega, by omega, by omega, by omega, k + 1, by rw [hs]; rfl, hgo⟩
    · have h3 : (↑s.length - ↑k : Int) % 2 = 0 := by omega
      rw [h3] at hs
      exact ⟨by omega, by omega, by omega, by omega, by omega, k + 1, by rw [hs]; rfl, hgo⟩
  · have hks : k = s.length := by omega
    rw [hks]
    exact hQ.1 (all_isDig fun j hj => hall j (by omega))
theorem cdR_ok (hP : C.P = Tryz.prog) : SpecOK C 85 S_checkDigit := by
  rintro args objs U Os vc h hvc
  unfold S_checkDigit at h
  split at h <;> simp only [Option.some.injEq, Prod.mk.injEq, reduceCtorEq] at h
  rename_i s
  obtain ⟨rfl, rfl, rfl⟩ := h
  refine SpecOK.wpL (prg hP) [] [(5, L_checkDigitR s)] 0 .nil (hP ▸ Tryz.func85) rfl rfl rfl [(loopC Tryz.f85 5, L_checkDigitR s)] (by kernel_rfl) ⟨cdR_loop hP s, trivial⟩ ?_
  rw [nf_cdR]
  have main : (s.length = 7 ∨ s.length = 12) → condP (s.all isDig) ((10 : Int) ≠ 0 ∧ inR .i64 (10 - Int.tmod (cdSum s s.length) 10) ∧ (10 : Int) ≠ 0 ∧ AV.tuple [.int .i64 (Int.tmod (10 - Int.tmod (cdSum s s.length) 10) 10), .bool true] = .tuple [.int .i64 (cdF s).1, .bool (cdF s).2] ∧ ([] : List (Nat × AObj)) = [])
      (AV.tuple [.int .i64 0, .bool false] = .tuple [.int .i64 (cdF s).1, .bool (cdF s).2] ∧ ([] : List (Nat × AObj)) = []) := by
    intro hl
    have hd : digitsF s 7 12 = s.all isDig := by
      unfold digitsF
      rcases hl with h | h <;> simp [h]
    refine condP_intro (fun ha => ?_) (fun ha => ?_)
    · have hb := cdSum_bound ha s.length (Nat.le_refl _)
      have e : Int.tmod (cdSum s s.length) 10 = cdSum s s.length % 10 := Int.tmod_eq_emod_of_nonneg (by omega)
      rw [e, Int.tmod_eq_emod_of_nonneg (by omega)]
      refine ⟨by omega, by simp only [inR]; omega, by omega, ?_, rfl⟩
      simp [cdF, hd, ha]
    · refine ⟨?_, rfl⟩
      simp [cdF, hd, ha]
  refine condP_ndec (fun h1 => condP_ndec (fun h2 => ⟨?_, rfl⟩) (fun h2 => ⟨rfl, by omega, main (by omega)⟩)) (fun h1 => ⟨rfl, by omega, main (by omega)⟩)
  have hd : digitsF s 7 12 = false := by unfold digitsF; rw [decide_eq_false h1, decide_eq_false h2]; rfl
  simp [cdF, hd]
theorem validIDR_ok (hP : C.P = Tryz.prog) : SpecOK C 99 S_validID := by
  rintro args objs U Os vc h hvc
  unfold S_validID at h
  split at h <;> simp only [Option.some.injEq, Prod.mk.injEq, reduceCtorEq] at h
  rename_i s
  obtain ⟨rfl, rfl, rfl⟩ := h
  refine SpecOK.wp0 (prg hP) [(85, .det S_checkDigit)] 0 (.cons (cdR_ok hP) .nil) (hP ▸ Tryz.func99) rfl rfl rfl ?_
  rw [nf_validIDR]
  have e1 : ∀ h : s.length = 8 ∨ s.length = 13, (↑s.length - 1 : Int).toNat = s.length - 1 := by intro h; omega
  have hcd := cdF_bound (s.take (s.length - 1))
  have last : (s.length = 8 ∨ s.length = 13) → (s.all isDig = ((cdF (s.take (s.length - 1))).2 && isDig (s.getD (s.length - 1) 0))) := by
    intro hl
    have h2 : (cdF (s.take (s.length - 1))).2 = (s.take (s.length - 1)).all isDig := by
      have hd : digitsF (s.take (s.length - 1)) 7 12 = (s.take (s.length - 1)).all isDig := by
        unfold digitsF
        have : (s.take (s.length - 1)).length = s.length - 1 := by simp
        rcases hl with h | h <;> simp [h]
      unfold cdF
      rw [hd]
      cases (s.take (s.length - 1)).all isDig <;> rfl
    have hs : s = s.take (s.length - 1) ++ [s.getD (s.length - 1) 0] := by
      have hlt : s.length - 1 < s.length := by omega
      have := (List.take_append_drop (s.length - 1) s).symm
      rw [List.drop_eq_getElem_cons hlt] at this
      have e : s.getD (s.length - 1) 0 = s[s.length - 1] := by simp [List.getD, hlt]
      rw [e]
      have hd : List.drop (s.length - 1 + 1) s = [] := List.drop_eq_nil_of_le (by omega)
      rw [hd] at this
      exact this
    rw [h2]
    conv => lhs; rw [hs]
    simp
  have hv : (s.length = 8 ∨ s.length = 13) → validIDF s = ((cdF (s.take (s.length - 1))).2 && decide ((s.getD (s.length - 1) 0).toNat = 48 + (cdF (s.take (s.length - 1))).1)) := by
    intro hl
    have hd : digitsF s 8 13 = s.all isDig := by
      unfold digitsF
      rcases hl with h | h <;> simp [h]
    unfold validIDF
    rw [hd, last hl]
    cases hc : (cdF (s.take (s.length - 1))).2 with
    | false => rfl
    | true =>
      simp only [Bool.true_and]
      cases hi : isDig (s.getD (s.length - 1) 0) with
      | true =>
        refine decide_eq_decide.2 ?_
        omega
      | false =>
        refine (decide_eq_false fun he => ?_).symm
        simp only [isDig, Bool.and_eq_false_imp, decide_eq_true_eq, decide_eq_false_iff_not] at hi
        omega
  have main : (s.length = 8 ∨ s.length = 13) → condP (cdF (s.take (s.length - 1))).2 (inR .i64 (↑s.length - 1) ∧ (0 ≤ (↑s.length - 1 : Int) ∧ (↑s.length - 1 : Int) < ↑s.length) ∧ inR .i64 (48 + (cdF (s.take (s.length - 1))).1) ∧ inR .u8 (48 + (cdF (s.take (s.length - 1))).1) ∧
      AV.bool (decide ((↑(s.getD (s.length - 1) 0).toNat : Int) = 48 + (cdF (s.take (s.length - 1))).1)) = .bool (validIDF s) ∧ ([] : List (Nat × AObj)) = []) (AV.bool false = .bool (validIDF s) ∧ ([] : List (Nat × AObj)) = []) := by
    intro hl
    rw [hv hl]
    refine condP_intro (fun hc => ?_) (fun hc => ?_)
    · simp only [inR, hc, Bool.true_and]
      exact ⟨by omega, by omega, by omega, by omega, by simp⟩
    · simp [hc]
  refine condP_ndec (fun h1 => condP_ndec (fun h2 => ⟨?_, rfl⟩) (fun h2 => ?_)) (fun h1 => ?_)
  · have hd : digitsF s 8 13 = false := by unfold digitsF; rw [decide_eq_false h1, decide_eq_false h2]; rfl
    simp [validIDF, hd]
  · have hl : s.length = 8 ∨ s.length = 13 := by omega
    rw [e1 hl]
    exact ⟨by simp only [inR]; omega, by omega, trivial, main hl⟩
  · have hl : s.length = 8 ∨ s.length = 13 := by omega
    rw [e1 hl]
    exact ⟨by simp only [inR]; omega, by omega, trivial, main hl⟩
end Go.Eng
namespace Go.Eng
open Go.Proofs Go.RowKit
variable {C : Ctx} [C.Loose]
set_option maxRecDepth 20000
theorem nf_fold (n k : Int) (R : AV → List (Nat × AObj) → Prop) : wpFn te [] [] 0 Tryz.f23 [.int .i64 n, .int .i64 k] [] R = (letI z0 := (Int.tmod (IntKind.wrap IntKind.u64 n) (IntKind.wrap IntKind.u64 (max k (1 : Int)))); True ∧ True ∧ IntKind.wrap IntKind.u64 (max k (1 : Int)) ≠ (0 : Int) ∧ inR .i64 z0 ∧ R (.int .i64 z0) []) := by kernel_rfl
theorem nf_next (n : Nat) (v : Nat → Int) (a k : Int) (R : AV → List (Nat × AObj) → Prop) : wpFn te [] [] 0 Tryz.f27 [.ptr 0 0, .int .i64 k] [.cells [.view 1 n (intRow v), .int .i64 a] 28] R = (letI z1 := ([(0, .cells [.view 1 n (intRow v), .int .i64 (a + (1 : Int))] 28)] : List (Nat × AObj)); letI z0 := (IntKind.wrap IntKind.u64 (max k (1 : Int))); letI z3 := Int.tmod (IntKind.wrap IntKind.u64 0) z0; letI z2 := Int.tmod (IntKind.wrap IntKind.u64 (v (Int.toNat a))) z0; condP (decide (a < (↑n : Int))) (((0 : Int) ≤ a ∧ a < (↑n : Int) ∧ 1 = 1) ∧ inR .i64 (a + (1 : Int)) ∧ True ∧ True ∧ IntKind.wrap IntKind.u64 (max k (1 : Int)) ≠ (0 : Int) ∧ inR .i64 z2 ∧ R (.int .i64 z2) z1) (inR .i64 (a + (1 : Int)) ∧ True ∧ True ∧ IntKind.wrap IntKind.u64 (max k (1 : Int)) ≠ (0 : Int) ∧ inR .i64 z3 ∧ R (.int .i64 z3) z1)) := by kernel_rfl
theorem wrap_u64 (n : Int) : IntKind.wrap .u64 n = n % 18446744073709551616 := by
  show n % (2 : Int) ^ 64 = _
  rfl
theorem next_val {k : Int} (h : 1 ≤ k ∧ k ≤ 1000000) (x : Int) : IntKind.wrap .u64 (max k 1) ≠ 0 ∧ Int.tmod (IntKind.wrap .u64 x) (IntKind.wrap .u64 (max k 1)) = foldV x k := by
  have e : IntKind.wrap .u64 (max k 1) = k := by
    rw [wrap_u64, Int.max_eq_left h.1]
    omega
  rw [e, wrap_u64]
  have hx : 0 ≤ x % 18446744073709551616 := by omega
  rw [Int.tmod_eq_emod_of_nonneg hx]
  exact ⟨by omega, rfl⟩
theorem fold_ok (hP : C.P = Tryz.prog) : SpecOK C 23 S_fold := by
  have _ : C.Loose := inferInstance
  rintro args objs U Os vc h hvc
  unfold S_fold at h
  split at h <;> simp only [Option.some.injEq, Prod.mk.injEq, reduceCtorEq] at h
  rename_i n k
  obtain ⟨rfl, rfl, rfl⟩ := h
  refine SpecOK.wp0 (prg hP) [] 0 .nil (hP ▸ Tryz.func23) rfl rfl rfl ?_
  rw [nf_fold]
  obtain ⟨h1, h2⟩ := next_val hvc n
  have h3 := foldV_range hvc.1 n
  rw [h2]
  exact ⟨trivial, trivial, h1, by simp only [inR]; omega, rfl, rfl⟩
theorem next_ok (hP : C.P = Tryz.prog) : SpecOK C 27 S_next := by
  have _ : C.Loose := inferInstance
  rintro args objs U Os vc h hvc
  unfold S_next at h
  split at h <;> simp only [Option.some.injEq, Prod.mk.injEq, reduceCtorEq] at h
  rename_i k sz n f a t
  obtain ⟨rfl, rfl, rfl⟩ := h
  obtain ⟨rfl, rfl, hf, hk, ha⟩ := hvc
  rw [hf]
  have hv : vInt (intRow (vInt f)) = vInt f := rfl
  rw [hv]
  generalize vInt f = v at *
  refine SpecOK.wp0 (prg hP) [] 0 .nil (hP ▸ Tryz.func27) rfl rfl rfl ?_
  rw [nf_next]
  unfold nextV
  refine condP_dec (fun h => ?_) (fun h => ?_)
  · obtain ⟨h1, h2⟩ := next_val hk (v a.toNat)
    have h3 := foldV_range hk.1 (v a.toNat)
    rw [h2, decide_eq_true h]
    exact ⟨⟨by omega, by omega, rfl⟩, by simp only [inR]; omega, trivial, trivial, h1, by simp only [inR]; omega, rfl, rfl⟩
  · obtain ⟨h1, h2⟩ := next_val hk 0
    have h3 := foldV_range hk.1 0
    rw [h2, decide_eq_false h]
    exact ⟨by simp only [inR]; omega, trivial, trivial, h1, by simp only [inR]; omega, rfl, rfl⟩
theorem nf_id_round (V j : Nat) (P : Nat → Prop) (R : Exit → St → Prop) : roundP ⟨te, [], [], 0, 39, 0⟩ (loopB Tryz.f43 4) [3, 4, 5] [4] [] (S_idl V) P R (S_idl V j) = (letI z0 := (Int.tdiv (↑(pw V j) : Int) (10 : Int)); condP (decide ((0 : Int) ≤ (6 : Int) - (↑j : Int))) ((10 : Int) ≠ (0 : Int) ∧ inR .i64 ((48 : Int) + Int.tmod (↑(pw V j) : Int) (10 : Int)) ∧ inR .u8 ((48 : Int) + Int.tmod (↑(pw V j) : Int) (10 : Int)) ∧ ((0 : Int) ≤ (6 : Int) - (↑j : Int) ∧ (6 : Int) - (↑j : Int) < (↑7 : Int)) ∧ (List.length [AV.int .u8 ((48 : Int) + Int.tmod (↑(pw V j) : Int) (10 : Int))] = 1 ∧ Int.toNat ((6 : Int) - (↑j : Int)) < 7 ∧ 1 = 1) ∧ ((10 : Int) ≠ (0 : Int) ∧ inR .i64 z0) ∧ inR .i64 ((6 : Int) - (↑j : Int) - (1 : Int)) ∧ ∃ (i' : Nat), (TEq [(3, .int .i64 z0), (4, .own 0 7), (5, .int .i64 ((6 : Int) - (↑j : Int) - (1 : Int)))] [(3, .int .i64 (↑(pw V i') : Int)), (4, .own 0 7), (5, .int .i64 ((6 : Int) - (↑i' : Int)))] ∧ RowsEq [(0, .row 5 1 7 (fun (k : Nat) => if k = Int.toNat ((6 : Int) - (↑j : Int)) then [.int .u8 ((48 : Int) + Int.tmod (↑(pw V j) : Int) (10 : Int))] else [.int .u8 (bif decide (7 ≤ k + j) then dgI V k else (0 : Int))]) false)] [(0, .row 5 1 7 (fun (k : Nat) => [.int .u8 (bif decide (7 ≤ k + i') then dgI V k else (0 : Int))]) false)]) ∧ P i') ((∀ (i : Nat), i < 7 → true = true) ∧ ∃ (O' : List (Nat × AObj)), RowsEq [(0, .row 5 1 7 (fun (k : Nat) => [.int .u8 (bif decide (7 ≤ k + j) then dgI V k else (0 : Int))]) false)] O' ∧ R (.exit 0) (St.mk [(4, .own 0 7)] O' 1 []))) := by kernel_rfl
theorem nf_id (n : Int) (V : Nat) (R : AV → List (Nat × AObj) → Prop) : wpFn te [(23, .det S_fold), (85, .det S_checkDigit)] [(4, L_id V)] 2 Tryz.f43 [.int .i64 n] [] R = (letI z3 := (List.flatten (List.replicate (nat_lit 0) [.int .u8 0]) : List AV); letI z2 := cdF (bytesA 7 (idRow V)); letI z1 := TI.mk (TypeDesc.int IntKind.u8) 1 1 (Value.int IntKind.u8 0) false; letI z0 := (chunkA (TI.sz z1) (.int .u8 ((48 : Int) + Prod.fst z2) :: List.append [] z3)); ((1 : Int) ≤ (1000000 : Int) ∧ (1000000 : Int) ≤ (1000000 : Int)) ∧ inR .i64 ((1000000 : Int) + foldV n (1000000 : Int)) ∧ ((0 : Int) ≤ (7 : Int) ∧ (7 : Int) ≤ (7 : Int) ∧ (↑(TI.bytes z1) : Int) * (7 : Int) ≤ (281474976710656 : Int) ∧ (7 : Int) ≤ (9223372036854775807 : Int)) ∧ (TEq [(3, .int .i64 ((1000000 : Int) + foldV n (1000000 : Int))), (4, .own 0 7), (5, .int .i64 6)] [(3, .int .i64 (↑(pw V 0) : Int)), (4, .own 0 7), (5, .int .i64 ((6 : Int) - (↑0 : Int)))] ∧ RowsEq [(0, .row 5 1 7 (fun (_x : Nat) => [.int .u8 0]) false)] [(0, .row 5 1 7 (fun (k : Nat) => [.int .u8 (bif decide (7 ≤ k + 0) then dgI V k else (0 : Int))]) false)]) ∧ V < 2000000 ∧ ((7 ≤ 7 ∧ 1 = 1) ∧ ∀ (i : Nat), i < 7 → isU8 (idRow V i) = true) ∧ True ∧ ((7 ≤ 7 ∧ 1 = 1) ∧ ∀ (i : Nat), i < 7 → isU8 (idRow V i) = true) ∧ inR .i64 ((48 : Int) + Prod.fst z2) ∧ inR .u8 ((48 : Int) + Prod.fst z2) ∧ (1 ≤ 16777216 ∧ 1 = 1 ∧ 1 ≤ 9223372036854775807) ∧ ((1 ≤ 1 ∧ 1 = 1) ∧ ∀ (i : Nat), i < 1 → isU8 (chunkA (TI.sz z1) (.int .u8 ((48 : Int) + Prod.fst z2) :: List.append [] z3) i) = true) ∧ List.length (bytesA 7 (idRow V)) + List.length (bytesA 1 z0) ≤ 9223372036854775807 ∧ R (.str (bytesA 7 (idRow V) ++ bytesA 1 z0)) []) := by kernel_rfl
theorem pw_step (V j : Nat) : Int.tdiv (pw V j : Nat) 10 = (pw V (j + 1) : Nat) := by
  rw [Int.tdiv_eq_ediv_of_nonneg (Int.natCast_nonneg _)]
  unfold pw
  rw [Nat.pow_succ, ← Nat.div_div_eq_div_mul]
  rfl
theorem pw_le (V j : Nat) : pw V j ≤ V := Nat.div_le_self _ _
theorem id_loop (hP : C.P = Tryz.prog) (V : Nat) : LoopOK C 0 39 (loopC Tryz.f43 4) (L_id V) := by
  have _ : C.Loose := inferInstance
  rintro st Q ⟨h0, hv, hQ⟩
  refine LoopOK.mk (prg hP) [] 0 .nil [3, 4, 5] [4] [] (S_idl V) (fun j => j ≤ 7) (fun j => 7 - j) 0 (by omega) h0 (fun j hj => ?_) (fun i => ⟨fun _ _ => rfl, trivial⟩)
  rw [nf_id_round]
  have hle := pw_le V j
  have ht : Int.tmod (pw V j : Nat) 10 = ((pw V j % 10 : Nat) : Int) := by
    rw [Int.tmod_eq_emod_of_nonneg (Int.natCast_nonneg _)]; rfl
  rw [ht, pw_step]
  have hle' := pw_le V (j + 1)
  have hm := Nat.mod_lt (pw V j) (show 0 < 10 by omega)
  refine condP_dec (fun h => ?_) (fun h => ⟨fun _ _ => rfl, _, ?_, hQ⟩)
  · refine ⟨by omega, by simp only [inR]; omega, by simp only [inR]; omega, ⟨h, by omega⟩, ⟨rfl, by omega, rfl⟩, ⟨by omega, by simp only [inR]; omega⟩, by simp only [inR]; omega, j + 1, ⟨?_, ⟨rfl, rfl, rfl, rfl, rfl, fun k hk => ?_⟩, trivial⟩, by omega, by omega⟩
    · rw [show (6 : Int) - (j : Int) - 1 = 6 - ((j + 1 : Nat) : Int) by omega]
      rfl
    · dsimp only
      split
      · rename_i e
        have e' : 6 - k = j := by omega
        rw [decide_eq_true (show 7 ≤ k + (j + 1) by omega)]
        unfold dgI
        rw [e']; rfl
      · rename_i e
        by_cases h7 : 7 ≤ k + j
        · rw [decide_eq_true h7, decide_eq_true (show 7 ≤ k + (j + 1) by omega)]
        · rw [decide_eq_false h7, decide_eq_false (show ¬ 7 ≤ k + (j + 1) by omega)]
  · have : j = 7 := by omega
    subst this
    refine ⟨⟨rfl, rfl, rfl, rfl, rfl, fun k hk => ?_⟩, trivial⟩
    dsimp only
    rw [decide_eq_true (show 7 ≤ k + 7 by omega)]
    rfl
theorem id_ok (hP : C.P = Tryz.prog) : SpecOK C 43 S_id := by
  rintro args objs U Os vc h hvc
  unfold S_id at h
  split at h <;> simp only [Option.some.injEq, Prod.mk.injEq, reduceCtorEq] at h
  rename_i n
  obtain ⟨rfl, rfl, rfl⟩ := h
  refine SpecOK.wpL (prg hP) [(23, .det S_fold), (85, .det S_checkDigit)] [(4, L_id (idV n))] 2 (.cons (fold_ok hP) (.cons (cdR_ok hP) .nil)) (hP ▸ Tryz.func43) rfl rfl rfl [(loopC Tryz.f43 4, L_id (idV n))] (by kernel_rfl) ⟨id_loop hP _, trivial⟩ ?_
  rw [nf_id]
  have hf := foldV_range (show (1 : Int) ≤ 1000000 by omega) n
  have hV : ((idV n : Nat) : Int) = 1000000 + foldV n 1000000 := by unfold idV; omega
  have hl := id7_len n
  have hc := cdF_range (id7 n)
  refine ⟨⟨by omega, by omega⟩, by simp only [inR]; omega, ⟨by omega, by omega, by decide, by omega⟩, ⟨?_, ⟨rfl, rfl, rfl, rfl, rfl, fun k hk => ?_⟩, trivial⟩, by omega, ⟨⟨by omega, rfl⟩, fun _ _ => rfl⟩, trivial, ⟨⟨by omega, rfl⟩, fun _ _ => rfl⟩, ?_, ?_, ⟨by omega, rfl, by omega⟩, ⟨⟨by omega, rfl⟩, fun i hi => ?_⟩, ?_, rfl, rfl⟩
  · rw [← hV]
    show TEq [(3, .int .i64 ((idV n : Nat) : Int)), (4, .own 0 7), (5, .int .i64 6)] [(3, .int .i64 ((idV n / 1 : Nat) : Int)), (4, .own 0 7), (5, .int .i64 6)]
    rw [Nat.div_one]; rfl
  · dsimp only
    rw [decide_eq_false (show ¬ 7 ≤ k + 0 by omega)]; rfl
  · show inR .i64 (48 + (cdF (id7 n)).1)
    simp only [inR]; omega
  · show inR .u8 (48 + (cdF (id7 n)).1)
    simp only [inR]; omega
  · obtain rfl : i = 0 := by omega
    rfl
  · show (id7 n).length + _ ≤ _
    rw [hl]; simp [bytesA]
end Go.Eng
namespace Go.Eng
open Go.Proofs Go.RowKit
variable {C : Ctx} [C.Loose]
set_option maxRecDepth 20000
theorem nf_outlet (n : Nat) (v : Nat → Int) (a : Int) (R : AV → List (Nat × AObj) → Prop) : wpFn te [(27, .det S_next)] [] 0 Tryz.f47 [.ptr 0 0] [.cells [.view 1 n (intRow v), .int .i64 a] 28] R = ((3 ≤ 16777216 ∧ 1 = 1 ∧ 3 ≤ 9223372036854775807) ∧ (28 = 28 ∧ 1 = 1 ∧ intRow v = intRow (vInt (intRow v)) ∧ ((1 : Int) ≤ (3 : Int) ∧ (3 : Int) ≤ (1000000 : Int)) ∧ (0 : Int) ≤ a ∧ a ≤ (4611686018427387904 : Int)) ∧ ((0 : Int) ≤ nextV n (vInt (intRow v)) a (3 : Int) ∧ nextV n (vInt (intRow v)) a (3 : Int) < (↑3 : Int)) ∧ (Int.toNat (nextV n (vInt (intRow v)) a (3 : Int)) < 3 ∧ 1 = 1) ∧ R (.str (List.getD [[(111 : UInt8), 49], [(111 : UInt8), 50], [(112 : UInt8)]] (Int.toNat (nextV n (vInt (intRow v)) a (3 : Int))) [])) [(0, .cells [.view 1 n (intRow v), .int .i64 (a + (1 : Int))] 28)]) := by kernel_rfl
theorem nf_tproduct (n : Nat) (v : Nat → Int) (a : Int) (R : AV → List (Nat × AObj) → Prop) : wpFn te [(27, .det S_next), (43, .det S_id)] [] 0 Tryz.f48 [.ptr 0 0] [.cells [.view 1 n (intRow v), .int .i64 a] 28] R = ((28 = 28 ∧ 1 = 1 ∧ intRow v = intRow (vInt (intRow v)) ∧ ((1 : Int) ≤ (4 : Int) ∧ (4 : Int) ≤ (1000000 : Int)) ∧ (0 : Int) ≤ a ∧ a ≤ (4611686018427387904 : Int)) ∧ True ∧ R (.str (idF (nextV n (vInt (intRow v)) a (4 : Int)))) [(0, .cells [.view 1 n (intRow v), .int .i64 (a + (1 : Int))] 28)]) := by kernel_rfl
theorem outlet_ok (hP : C.P = Tryz.prog) : SpecOK C 47 S_outlet := by
  rintro args objs U Os vc h hvc
  unfold S_outlet at h
  split at h <;> simp only [Option.some.injEq, Prod.mk.injEq, reduceCtorEq] at h
  rename_i sz n f a t
  obtain ⟨rfl, rfl, rfl⟩ := h
  obtain ⟨rfl, rfl, hf, h1, h2⟩ := hvc
  rw [hf]
  generalize vInt f = v
  have hw : vInt (intRow v) = v := rfl
  refine SpecOK.wp0 (prg hP) [(27, .det S_next)] 0 (.cons (next_ok hP) .nil) (hP ▸ Tryz.func47) rfl rfl rfl ?_
  rw [nf_outlet]
  have r := nextV_range (show (1 : Int) ≤ 3 by omega) n v a
  exact ⟨⟨by omega, rfl, by omega⟩, ⟨rfl, rfl, rfl, ⟨by omega, by omega⟩, by omega, by omega⟩, ⟨r.1, r.2⟩, ⟨by rw [hw]; omega, rfl⟩, rfl, rfl⟩
theorem tproduct_ok (hP : C.P = Tryz.prog) : SpecOK C 48 S_product := by
  rintro args objs U Os vc h hvc
  unfold S_product at h
  split at h <;> simp only [Option.some.injEq, Prod.mk.injEq, reduceCtorEq] at h
  rename_i sz n f a t
  obtain ⟨rfl, rfl, rfl⟩ := h
  obtain ⟨rfl, rfl, hf, h1, h2⟩ := hvc
  rw [hf]
  generalize vInt f = v
  have hw : vInt (intRow v) = v := rfl
  refine SpecOK.wp0 (prg hP) [(27, .det S_next), (43, .det S_id)] 0 (.cons (next_ok hP) (.cons (id_ok hP) .nil)) (hP ▸ Tryz.func48) rfl rfl rfl ?_
  rw [nf_tproduct]
  exact ⟨⟨rfl, rfl, rfl, ⟨by omega, by omega⟩, by omega, by omega⟩, trivial, rfl, rfl⟩
theorem outF_ok : ∀ i, i < 3 → nameF (List.getD [[111, 49], [111, 50], [112]] i []) = true ∧ (List.getD [[111, 49], [111, 50], [112]] i ([] : List UInt8)).length ≤ 2 := by decide +kernel
end Go.Eng
namespace Go.Eng
open Go.Proofs Go.RowKit
variable {C : Ctx} [C.Loose]
set_option maxRecDepth 20000
theorem nf_device (n : Nat) (v : Nat → Int) (a : Int) (R : AV → List (Nat × AObj) → Prop) : wpFn te [(27, .det S_next)] [] 0 Tryz.f44 [.ptr 0 0] [.cells [.view 1 n (intRow v), .int .i64 a] 28] R = ((3 ≤ 16777216 ∧ 1 = 1 ∧ 3 ≤ 9223372036854775807) ∧ (28 = 28 ∧ 1 = 1 ∧ intRow v = intRow (vInt (intRow v)) ∧ ((1 : Int) ≤ (3 : Int) ∧ (3 : Int) ≤ (1000000 : Int)) ∧ (0 : Int) ≤ a ∧ a ≤ (4611686018427387904 : Int)) ∧ ((0 : Int) ≤ nextV n (vInt (intRow v)) a (3 : Int) ∧ nextV n (vInt (intRow v)) a (3 : Int) < (↑3 : Int)) ∧ (Int.toNat (nextV n (vInt (intRow v)) a (3 : Int)) < 3 ∧ 1 = 1) ∧ R (.str (List.getD [[(97 : UInt8)], [(98 : UInt8)], [(99 : UInt8)]] (Int.toNat (nextV n (vInt (intRow v)) a (3 : Int))) [])) [(0, .cells [.view 1 n (intRow v), .int .i64 (a + (1 : Int))] 28)]) := by kernel_rfl
theorem nf_mvisit (n : Nat) (v : Nat → Int) (a : Int) (R : AV → List (Nat × AObj) → Prop) : wpFn te [(27, .det S_next), (47, .det S_outlet), (48, .det S_product), (43, .det S_id)] [] 3 Tryz.f45 [.ptr 0 0] [.cells [.view 1 n (intRow v), .int .i64 a] 28] R = (letI z17 := (4611686018427387904 : Int); letI z16 := (4611686018427387000 : Int); letI z15 := (Int.toNat ((48 : Int) + Prod.fst (cdF (id7 (4 : Int))))); letI z13 := (a + (1 : Int) + (1 : Int)); letI z12 := (a + (1 : Int) + (1 : Int) + (1 : Int) + (1 : Int)); letI z18 := (nextV n (vInt (intRow v)) z12 (7 : Int)); letI z11 := (a + (1 : Int) + (1 : Int) + (1 : Int) + (1 : Int) + (1 : Int) + (1 : Int)); letI z19 := (nextV n (vInt (intRow v)) z11 (4 : Int)); letI z10 := (outF (nextV n (vInt (intRow v)) a (3 : Int))); letI z9 := (a + (1 : Int) + (1 : Int) + (1 : Int)); letI z8 := ([(0, .cells [.view 1 n (intRow v), .int .i64 (a + (1 : Int) + (1 : Int) + (1 : Int) + (1 : Int) + (1 : Int) + (1 : Int) + (1 : Int))] 28)] : List (Nat × AObj)); letI z7 := ([(0, .cells [.view 1 n (intRow v), .int .i64 z11] 28)] : List (Nat × AObj)); letI z6 := (nextV n (vInt (intRow v)) (a + (1 : Int)) (4 : Int)); letI z5 := (a + (1 : Int) + (1 : Int) + (1 : Int) + (1 : Int) + (1 : Int)); letI z4 := (Int.toNat z18); letI z14 := (decide ((1 : Int) + List.getD [(0 : Int), (0 : Int), (0 : Int), (1 : Int), (2 : Int), (3 : Int), (4 : Int)] z4 (0 : Int) = (5 : Int))); letI z3 := ([.str z10, .str (idF z6), .int .i64 ((1440 : Int) + nextV n (vInt (intRow v)) z13 (4 : Int)), .int .i64 ((43830 : Int) + nextV n (vInt (intRow v)) z9 (100 : Int)), .int .i64 ((1 : Int) + List.getD [(0 : Int), (0 : Int), (0 : Int), (1 : Int), (2 : Int), (3 : Int), (4 : Int)] z4 (0 : Int)), .int .i64 0, .str [(fun (i : Nat) => UInt8.ofNat (Int.toNat (intOf (List.headD (idRow (idV (4 : Int)) i) .any)))) (nat_lit 0), (fun (i : Nat) => UInt8.ofNat (Int.toNat (intOf (List.headD (idRow (idV (4 : Int)) i) .any)))) (nat_lit 1), (fun (i : Nat) => UInt8.ofNat (Int.toNat (intOf (List.headD (idRow (idV (4 : Int)) i) .any)))) (nat_lit 2), (fun (i : Nat) => UInt8.ofNat (Int.toNat (intOf (List.headD (idRow (idV (4 : Int)) i) .any)))) (nat_lit 3), (fun (i : Nat) => UInt8.ofNat (Int.toNat (intOf (List.headD (idRow (idV (4 : Int)) i) .any)))) (nat_lit 4), (fun (i : Nat) => UInt8.ofNat (Int.toNat (intOf (List.headD (idRow (idV (4 : Int)) i) .any)))) (nat_lit 5), (fun (i : Nat) => UInt8.ofNat (Int.toNat (intOf (List.headD (idRow (idV (4 : Int)) i) .any)))) (nat_lit 6), UInt8.ofNat z15]] : List AV); letI z2 := ([.str z10, .str (idF z6), .int .i64 ((1440 : Int) + nextV n (vInt (intRow v)) z13 (4 : Int)), .int .i64 ((43830 : Int) + nextV n (vInt (intRow v)) z9 (100 : Int)), .int .i64 ((1 : Int) + List.getD [(0 : Int), (0 : Int), (0 : Int), (1 : Int), (2 : Int), (3 : Int), (4 : Int)] z4 (0 : Int)), .int .i64 ((100 : Int) + nextV n (vInt (intRow v)) z5 (4 : Int) * (5 : Int)), .str [(fun (i : Nat) => UInt8.ofNat (Int.toNat (intOf (List.headD (idRow (idV (4 : Int)) i) .any)))) (nat_lit 0), (fun (i : Nat) => UInt8.ofNat (Int.toNat (intOf (List.headD (idRow (idV (4 : Int)) i) .any)))) (nat_lit 1), (fun (i : Nat) => UInt8.ofNat (Int.toNat (intOf (List.headD (idRow (idV (4 : Int)) i) .any)))) (nat_lit 2), (fun (i : Nat) => UInt8.ofNat (Int.toNat (intOf (List.headD (idRow (idV (4 : Int)) i) .any)))) (nat_lit 3), (fun (i : Nat) => UInt8.ofNat (Int.toNat (intOf (List.headD (idRow (idV (4 : Int)) i) .any)))) (nat_lit 4), (fun (i : Nat) => UInt8.ofNat (Int.toNat (intOf (List.headD (idRow (idV (4 : Int)) i) .any)))) (nat_lit 5), (fun (i : Nat) => UInt8.ofNat (Int.toNat (intOf (List.headD (idRow (idV (4 : Int)) i) .any)))) (nat_lit 6), UInt8.ofNat z15]] : List AV); letI z1 := (decide ([(fun (i : Nat) => UInt8.ofNat (Int.toNat (intOf (List.headD (idRow (idV (4 : Int)) i) .any)))) (nat_lit 0), (fun (i : Nat) => UInt8.ofNat (Int.toNat (intOf (List.headD (idRow (idV (4 : Int)) i) .any)))) (nat_lit 1), (fun (i : Nat) => UInt8.ofNat (Int.toNat (intOf (List.headD (idRow (idV (4 : Int)) i) .any)))) (nat_lit 2), (fun (i : Nat) => UInt8.ofNat (Int.toNat (intOf (List.headD (idRow (idV (4 : Int)) i) .any)))) (nat_lit 3), (fun (i : Nat) => UInt8.ofNat (Int.toNat (intOf (List.headD (idRow (idV (4 : Int)) i) .any)))) (nat_lit 4), (fun (i : Nat) => UInt8.ofNat (Int.toNat (intOf (List.headD (idRow (idV (4 : Int)) i) .any)))) (nat_lit 5), (fun (i : Nat) => UInt8.ofNat (Int.toNat (intOf (List.headD (idRow (idV (4 : Int)) i) .any)))) (nat_lit 6), UInt8.ofNat z15] = idF z6)); letI z0 := (condP z14 ((28 = 28 ∧ 1 = 1 ∧ intRow v = intRow (vInt (intRow v)) ∧ (0 : Int) ≤ a + (1 : Int) + (1 : Int) + (1 : Int) + (1 : Int) + (1 : Int) ∧ a + (1 : Int) + (1 : Int) + (1 : Int) + (1 : Int) + (1 : Int) ≤ z16) ∧ condP (decide (idF (nextV n (vInt (intRow v)) z5 (4 : Int)) = idF z6)) (True ∧ condP z1 (True ∧ condP z1 (True ∧ False) ((True ∧ True) ∧ R (.agg z3) z7)) ((True ∧ True) ∧ R (.agg z3) z7)) ((True ∧ True) ∧ R (.agg [.str z10, .str (idF z6), .int .i64 ((1440 : Int) + nextV n (vInt (intRow v)) z13 (4 : Int)), .int .i64 ((43830 : Int) + nextV n (vInt (intRow v)) z9 (100 : Int)), .int .i64 ((1 : Int) + List.getD [(0 : Int), (0 : Int), (0 : Int), (1 : Int), (2 : Int), (3 : Int), (4 : Int)] z4 (0 : Int)), .int .i64 0, .str (idF (nextV n (vInt (intRow v)) z5 (4 : Int)))]) z7)) ((True ∧ True) ∧ R (.agg [.str z10, .str (idF z6), .int .i64 ((1440 : Int) + nextV n (vInt (intRow v)) z13 (4 : Int)), .int .i64 ((43830 : Int) + nextV n (vInt (intRow v)) z9 (100 : Int)), .int .i64 ((1 : Int) + List.getD [(0 : Int), (0 : Int), (0 : Int), (1 : Int), (2 : Int), (3 : Int), (4 : Int)] z4 (0 : Int)), .int .i64 0, .str []]) [(0, .cells [.view 1 n (intRow v), .int .i64 z5] 28)])); (28 = 28 ∧ 1 = 1 ∧ intRow v = intRow (vInt (intRow v)) ∧ (0 : Int) ≤ a ∧ a ≤ z16) ∧ (28 = 28 ∧ 1 = 1 ∧ intRow v = intRow (vInt (intRow v)) ∧ (0 : Int) ≤ a + (1 : Int) ∧ a + (1 : Int) ≤ z16) ∧ (28 = 28 ∧ 1 = 1 ∧ intRow v = intRow (vInt (intRow v)) ∧ ((1 : Int) ≤ (4 : Int) ∧ (4 : Int) ≤ (1000000 : Int)) ∧ (0 : Int) ≤ a + (1 : Int) + (1 : Int) ∧ a + (1 : Int) + (1 : Int) ≤ z17) ∧ inR .i64 ((1440 : Int) + nextV n (vInt (intRow v)) z13 (4 : Int)) ∧ (28 = 28 ∧ 1 = 1 ∧ intRow v = intRow (vInt (intRow v)) ∧ ((1 : Int) ≤ (100 : Int) ∧ (100 : Int) ≤ (1000000 : Int)) ∧ (0 : Int) ≤ a + (1 : Int) + (1 : Int) + (1 : Int) ∧ a + (1 : Int) + (1 : Int) + (1 : Int) ≤ z17) ∧ inR .i64 ((43830 : Int) + nextV n (vInt (intRow v)) z9 (100 : Int)) ∧ (7 ≤ 16777216 ∧ 1 = 1 ∧ 7 ≤ 9223372036854775807) ∧ (28 = 28 ∧ 1 = 1 ∧ intRow v = intRow (vInt (intRow v)) ∧ ((1 : Int) ≤ (7 : Int) ∧ (7 : Int) ≤ (1000000 : Int)) ∧ (0 : Int) ≤ a + (1 : Int) + (1 : Int) + (1 : Int) + (1 : Int) ∧ a + (1 : Int) + (1 : Int) + (1 : Int) + (1 : Int) ≤ z17) ∧ ((0 : Int) ≤ nextV n (vInt (intRow v)) z12 (7 : Int) ∧ nextV n (vInt (intRow v)) z12 (7 : Int) < (↑7 : Int)) ∧ (Int.toNat z18 < 7 ∧ 1 = 1) ∧ inR .i64 ((1 : Int) + List.getD [(0 : Int), (0 : Int), (0 : Int), (1 : Int), (2 : Int), (3 : Int), (4 : Int)] z4 (0 : Int)) ∧ condP (!decide ((1 : Int) + List.getD [(0 : Int), (0 : Int), (0 : Int), (1 : Int), (2 : Int), (3 : Int), (4 : Int)] z4 (0 : Int) = (3 : Int))) (condP (!decide ((1 : Int) + List.getD [(0 : Int), (0 : Int), (0 : Int), (1 : Int), (2 : Int), (3 : Int), (4 : Int)] z4 (0 : Int) = (4 : Int))) ((28 = 28 ∧ 1 = 1 ∧ intRow v = intRow (vInt (intRow v)) ∧ ((1 : Int) ≤ (4 : Int) ∧ (4 : Int) ≤ (1000000 : Int)) ∧ (0 : Int) ≤ a + (1 : Int) + (1 : Int) + (1 : Int) + (1 : Int) + (1 : Int) ∧ a + (1 : Int) + (1 : Int) + (1 : Int) + (1 : Int) + (1 : Int) ≤ z17) ∧ inR .i64 (nextV n (vInt (intRow v)) z5 (4 : Int) * (5 : Int)) ∧ inR .i64 ((100 : Int) + nextV n (vInt (intRow v)) z5 (4 : Int) * (5 : Int)) ∧ condP z14 ((28 = 28 ∧ 1 = 1 ∧ intRow v = intRow (vInt (intRow v)) ∧ (0 : Int) ≤ a + (1 : Int) + (1 : Int) + (1 : Int) + (1 : Int) + (1 : Int) + (1 : Int) ∧ a + (1 : Int) + (1 : Int) + (1 : Int) + (1 : Int) + (1 : Int) + (1 : Int) ≤ z16) ∧ condP (decide (idF z19 = idF z6)) (True ∧ condP z1 (True ∧ condP z1 (True ∧ False) ((True ∧ True) ∧ R (.agg z2) z8)) ((True ∧ True) ∧ R (.agg z2) z8)) ((True ∧ True) ∧ R (.agg [.str z10, .str (idF z6), .int .i64 ((1440 : Int) + nextV n (vInt (intRow v)) z13 (4 : Int)), .int .i64 ((43830 : Int) + nextV n (vInt (intRow v)) z9 (100 : Int)), .int .i64 ((1 : Int) + List.getD [(0 : Int), (0 : Int), (0 : Int), (1 : Int), (2 : Int), (3 : Int), (4 : Int)] z4 (0 : Int)), .int .i64 ((100 : Int) + nextV n (vInt (intRow v)) z5 (4 : Int) * (5 : Int)), .str (idF z19)]) z8)) ((True ∧ True) ∧ R (.agg [.str z10, .str (idF z6), .int .i64 ((1440 : Int) + nextV n (vInt (intRow v)) z13 (4 : Int)), .int .i64 ((43830 : Int) + nextV n (vInt (intRow v)) z9 (100 : Int)), .int .i64 ((1 : Int) + List.getD [(0 : Int), (0 : Int), (0 : Int), (1 : Int), (2 : Int), (3 : Int), (4 : Int)] z4 (0 : Int)), .int .i64 ((100 : Int) + nextV n (vInt (intRow v)) z5 (4 : Int) * (5 : Int)), .str []]) z7)) z0) z0) := by kernel_rfl
theorem nf_mmsg (n : Nat) (v : Nat → Int) (a : Int) (R : AV → List (Nat × AObj) → Prop) : wpFn te [(27, .det S_next), (47, .det S_outlet), (48, .det S_product), (44, .det S_device), (45, .rel R_visit)] [] 0 Tryz.f46 [.ptr 0 0] [.cells [.view 1 n (intRow v), .int .i64 a] 28] R = (letI z4 := (devF (nextV n (vInt (intRow v)) a (3 : Int))); letI z3 := (a + (1 : Int) + (1 : Int) + (1 : Int) + (1 : Int) + (1 : Int)); letI z2 := (4611686018427387904 : Int); letI z1 := (4611686018427387000 : Int); letI z0 := (a + (1 : Int) + (1 : Int) + (1 : Int) + (1 : Int) + (1 : Int) + (1 : Int) + (1 : Int)); (28 = 28 ∧ 1 = 1 ∧ intRow v = intRow (vInt (intRow v)) ∧ (0 : Int) ≤ a ∧ a ≤ z1) ∧ (28 = 28 ∧ 1 = 1 ∧ intRow v = intRow (vInt (intRow v)) ∧ ((1 : Int) ≤ (9 : Int) ∧ (9 : Int) ≤ (1000000 : Int)) ∧ (0 : Int) ≤ a + (1 : Int) ∧ a + (1 : Int) ≤ z2) ∧ inR .i64 ((1 : Int) + nextV n (vInt (intRow v)) (a + (1 : Int)) (9 : Int)) ∧ (28 = 28 ∧ 1 = 1 ∧ intRow v = intRow (vInt (intRow v)) ∧ ((1 : Int) ≤ (5 : Int) ∧ (5 : Int) ≤ (1000000 : Int)) ∧ (0 : Int) ≤ a + (1 : Int) + (1 : Int) ∧ a + (1 : Int) + (1 : Int) ≤ z2) ∧ condP (decide (nextV n (vInt (intRow v)) (a + (1 : Int) + (1 : Int)) (5 : Int) = (0 : Int))) ((28 = 28 ∧ 1 = 1 ∧ intRow v = intRow (vInt (intRow v)) ∧ (0 : Int) ≤ a + (1 : Int) + (1 : Int) + (1 : Int) ∧ a + (1 : Int) + (1 : Int) + (1 : Int) ≤ z1) ∧ (28 = 28 ∧ 1 = 1 ∧ intRow v = intRow (vInt (intRow v)) ∧ (0 : Int) ≤ a + (1 : Int) + (1 : Int) + (1 : Int) + (1 : Int) ∧ a + (1 : Int) + (1 : Int) + (1 : Int) + (1 : Int) ≤ z1) ∧ (28 = 28 ∧ 1 = 1 ∧ intRow v = intRow (vInt (intRow v)) ∧ ((1 : Int) ≤ (4 : Int) ∧ (4 : Int) ≤ (1000000 : Int)) ∧ (0 : Int) ≤ a + (1 : Int) + (1 : Int) + (1 : Int) + (1 : Int) + (1 : Int) ∧ a + (1 : Int) + (1 : Int) + (1 : Int) + (1 : Int) + (1 : Int) ≤ z2) ∧ inR .i64 ((1440 : Int) + nextV n (vInt (intRow v)) z3 (4 : Int)) ∧ (28 = 28 ∧ 1 = 1 ∧ intRow v = intRow (vInt (intRow v)) ∧ (0 : Int) ≤ a + (1 : Int) + (1 : Int) + (1 : Int) + (1 : Int) + (1 : Int) + (1 : Int) ∧ a + (1 : Int) + (1 : Int) + (1 : Int) + (1 : Int) + (1 : Int) + (1 : Int) ≤ z1) ∧ (28 = 28 ∧ 1 = 1 ∧ intRow v = intRow (vInt (intRow v)) ∧ ((1 : Int) ≤ (9 : Int) ∧ (9 : Int) ≤ (1000000 : Int)) ∧ (0 : Int) ≤ a + (1 : Int) + (1 : Int) + (1 : Int) + (1 : Int) + (1 : Int) + (1 : Int) + (1 : Int) ∧ a + (1 : Int) + (1 : Int) + (1 : Int) + (1 : Int) + (1 : Int) + (1 : Int) + (1 : Int) ≤ z2) ∧ inR .i64 ((1 : Int) + nextV n (vInt (intRow v)) z0 (9 : Int)) ∧ (True ∧ True) ∧ R (.agg [.str z4, .int .i64 ((1 : Int) + nextV n (vInt (intRow v)) (a + (1 : Int)) (9 : Int)), .int .i64 2, .str [], .str [], .int .i64 0, .int .i64 0, .int .i64 0, .int .i64 0, .str [], .str (outF (nextV n (vInt (intRow v)) (a + (1 : Int) + (1 : Int) + (1 : Int)) (3 : Int))), .str (idF (nextV n (vInt (intRow v)) (a + (1 : Int) + (1 : Int) + (1 : Int) + (1 : Int)) (4 : Int))), .int .i64 ((1440 : Int) + nextV n (vInt (intRow v)) z3 (4 : Int)), .str (devF (nextV n (vInt (intRow v)) (a + (1 : Int) + (1 : Int) + (1 : Int) + (1 : Int) + (1 : Int) + (1 : Int)) (3 : Int))), .int .i64 ((1 : Int) + nextV n (vInt (intRow v)) z0 (9 : Int))]) [(0, .cells [.view 1 n (intRow v), .int .i64 (a + (1 : Int) + (1 : Int) + (1 : Int) + (1 : Int) + (1 : Int) + (1 : Int) + (1 : Int) + (1 : Int))] 28)]) (28 = 28 ∧ 1 = 1 ∧ intRow v = intRow (vInt (intRow v)) ∧ ((0 : Int) ≤ a + (1 : Int) + (1 : Int) + (1 : Int) ∧ a + (1 : Int) + (1 : Int) + (1 : Int) ≤ (4611686018427386000 : Int)) ∧ ∀ (x : VT) (a' : Int), VT.Made x → a + (1 : Int) + (1 : Int) + (1 : Int) ≤ a' ∧ a' ≤ a + (1 : Int) + (1 : Int) + (1 : Int) + (7 : Int) → (True ∧ True) ∧ R (.agg [.str z4, .int .i64 ((1 : Int) + nextV n (vInt (intRow v)) (a + (1 : Int)) (9 : Int)), .int .i64 1, .str (VT.o x), .str (VT.p x), .int .i64 (VT.per x), .int .i64 (VT.day x), .int .i64 (VT.st x), .int .i64 (VT.pr x), .str (VT.rep x), .str [], .str [], .int .i64 0, .str [], .int .i64 0]) [(0, .cells [.view 1 n (intRow v), .int .i64 a'] 28)])) := by kernel_rfl
theorem device_ok (hP : C.P = Tryz.prog) : SpecOK C 44 S_device := by
  rintro args objs U Os vc h hvc
  unfold S_device at h
  split at h <;> simp only [Option.some.injEq, Prod.mk.injEq, reduceCtorEq] at h
  rename_i sz n f a t
  obtain ⟨rfl, rfl, rfl⟩ := h
  obtain ⟨rfl, rfl, hf, h1, h2⟩ := hvc
  rw [hf]
  generalize vInt f = v
  have hw : vInt (intRow v) = v := rfl
  refine SpecOK.wp0 (prg hP) [(27, .det S_next)] 0 (.cons (next_ok hP) .nil) (hP ▸ Tryz.func44) rfl rfl rfl ?_
  rw [nf_device]
  have r := nextV_range (show (1 : Int) ≤ 3 by omega) n v a
  exact ⟨⟨by omega, rfl, by omega⟩, ⟨rfl, rfl, rfl, ⟨by omega, by omega⟩, by omega, by omega⟩, ⟨r.1, r.2⟩, ⟨by rw [hw]; omega, rfl⟩, rfl, rfl⟩
theorem stF : ∀ i : Nat, i < 7 → 1 ≤ 1 + List.getD [(0 : Int), 0, 0, 1, 2, 3, 4] i 0 ∧ 1 + List.getD [(0 : Int), 0, 0, 1, 2, 3, 4] i 0 ≤ 5 := by decide
theorem idF4i {x : Int} (h : 0 ≤ x ∧ x < 4) : ¬ idF 4 = idF x := by
  have := idF4 x.toNat (by omega)
  rwa [show ((x.toNat : Nat) : Int) = x by omega] at this
theorem vis_made {o p : List UInt8} {per day st pr : Int} {rep : List UInt8} (ho : nameF o = true) (hp : validIDF p = true) (hper : 0 ≤ per ∧ per ≤ 5999) (hday : 0 ≤ day ∧ day ≤ 182620)
    (h : ((st = 1 ∨ st = 2) ∧ (1 ≤ pr ∧ pr ≤ 1099511627776) ∧ rep = []) ∨ ((st = 3 ∨ st = 4) ∧ pr = 0 ∧ rep = []) ∨ (st = 5 ∧ (1 ≤ pr ∧ pr ≤ 1099511627776) ∧ validIDF rep = true ∧ ¬ rep = p)) : visF ⟨o, p, per, day, st, pr, rep⟩ = true := by
  unfold visF slotF
  dsimp only
  rw [ho, hp, decide_eq_true hper.1, decide_eq_true hper.2, decide_eq_true hday.1, decide_eq_true hday.2]
  rcases h with ⟨q | q, ⟨h1, h2⟩, h3⟩ | ⟨q | q, h1, h2⟩ | ⟨q, ⟨h1, h2⟩, h3, h4⟩
  · subst q; subst h3; rw [decide_eq_true h1, decide_eq_true h2]; rfl
  · subst q; subst h3; rw [decide_eq_true h1, decide_eq_true h2]; rfl
  · subst q; subst h1; subst h2; rfl
  · subst q; subst h1; subst h2; rfl
  · subst q; rw [decide_eq_true h1, decide_eq_true h2, h3, decide_eq_false h4]; rfl
theorem msg_madeV {dev : List UInt8} {seq : Int} {x : VT} (hd : nameF dev = true) (hs : 1 ≤ seq ∧ seq ≤ 1048576) (hx : visF x = true) : msgF ⟨dev, seq, 1, x, ⟨[], [], 0, [], 0⟩⟩ = 0 := by
  unfold msgF numF
  dsimp only
  rw [hd, hx, decide_eq_true hs.1, decide_eq_true hs.2]; rfl
theorem msg_madeD {dev : List UInt8} {seq : Int} {o p : List UInt8} {per : Int} {dd : List UInt8} {num : Int} (hd : nameF dev = true) (hs : 1 ≤ seq ∧ seq ≤ 1048576) (h : slotF o p per = true) (h' : nameF dd = true) (hn : 1 ≤ num ∧ num ≤ 1048576) :
    msgF ⟨dev, seq, 2, ⟨[], [], 0, 0, 0, 0, []⟩, ⟨o, p, per, dd, num⟩⟩ = 0 := by
  unfold msgF numF
  dsimp only
  rw [hd, h, h', decide_eq_true hs.1, decide_eq_true hs.2, decide_eq_true hn.1, decide_eq_true hn.2]; rfl
theorem slot_made {o p : List UInt8} {per : Int} (ho : nameF o = true) (hp : validIDF p = true) (hper : 0 ≤ per ∧ per ≤ 5999) : slotF o p per = true := by
  unfold slotF
  rw [ho, hp, decide_eq_true hper.1, decide_eq_true hper.2]; rfl
theorem mvisit_ok (hP : C.P = Tryz.prog) : RSpecOK C 45 R_visit := by
  rintro args objs R h
  unfold R_visit at h
  split at h
  · rename_i sz n f a t
    obtain ⟨rfl, rfl, hf, ha, hR⟩ := h
    rw [hf] at hR ⊢
    generalize vInt f = v at *
    have hw : vInt (intRow v) = v := rfl
    refine RSpecOK.wpL (prg hP) [(27, .det S_next), (47, .det S_outlet), (48, .det S_product), (43, .det S_id)] [] 3 (.cons (next_ok hP) (.cons (outlet_ok hP) (.cons (tproduct_ok hP) (.cons (id_ok hP) .nil)))) (hP ▸ Tryz.func45) rfl rfl rfl [] (by kernel_rfl) trivial ?_
    rw [nf_mvisit, hw]
    have r1 := nextV_range (show (1 : Int) ≤ 3 by omega) n v a
    have r2 := nextV_range (show (1 : Int) ≤ 4 by omega) n v (a + 1)
    have r3 := nextV_range (show (1 : Int) ≤ 4 by omega) n v (a + 1 + 1)
    have r4 := nextV_range (show (1 : Int) ≤ 100 by omega) n v (a + 1 + 1 + 1)
    have r5 := nextV_range (show (1 : Int) ≤ 7 by omega) n v (a + 1 + 1 + 1 + 1)
    have r6 := nextV_range (show (1 : Int) ≤ 4 by omega) n v (a + 1 + 1 + 1 + 1 + 1)
    have hst := stF (nextV n v (a + 1 + 1 + 1 + 1) 7).toNat (by omega)
    have ho := outF_ok (nextV n v a 3).toNat (by omega)
    have key : ∀ (st pr : Int) (rep : List UInt8) (a' : Int), (((st = 1 ∨ st = 2) ∧ (1 ≤ pr ∧ pr ≤ 1099511627776) ∧ rep = []) ∨ ((st = 3 ∨ st = 4) ∧ pr = 0 ∧ rep = []) ∨ (st = 5 ∧ (1 ≤ pr ∧ pr ≤ 1099511627776) ∧ validIDF rep = true ∧ ¬ rep = idF (nextV n v (a + 1) 4))) → (a ≤ a' ∧ a' ≤ a + 7) →
        R (.agg [.str (outF (nextV n v a 3)), .str (idF (nextV n v (a + 1) 4)), .int .i64 (1440 + nextV n v (a + 1 + 1) 4), .int .i64 (43830 + nextV n v (a + 1 + 1 + 1) 100), .int .i64 st, .int .i64 pr, .str rep]) [(0, .cells [.view 1 n (intRow v), .int .i64 a'] 28)] := fun st pr rep a' h1 h2 =>
      hR ⟨outF (nextV n v a 3), idF (nextV n v (a + 1) 4), 1440 + nextV n v (a + 1 + 1) 4, 43830 + nextV n v (a + 1 + 1 + 1) 100, st, pr, rep⟩ a' ⟨vis_made ho.1 (idF_valid _) (by omega) (by omega) h1, ho.2⟩ h2
    refine ⟨⟨rfl, rfl, rfl, by omega, by omega⟩, ⟨rfl, rfl, rfl, by omega, by omega⟩, ⟨rfl, rfl, rfl, ⟨by omega, by omega⟩, by omega, by omega⟩, by simp only [inR]; omega, ⟨rfl, rfl, rfl, ⟨by omega, by omega⟩, by omega, by omega⟩, by simp only [inR]; omega, ⟨by omega, rfl, by omega⟩, ⟨rfl, rfl, rfl, ⟨by omega, by omega⟩, by omega, by omega⟩, ⟨by omega, by omega⟩, ⟨by omega, rfl⟩, ?_⟩
    generalize 1 + List.getD [(0 : Int), 0, 0, 1, 2, 3, 4] (nextV n v (a + 1 + 1 + 1 + 1) 7).toNat 0 = st at *
    refine ⟨by simp only [inR]; omega, condP_ndec (fun s3 => condP_ndec (fun s4 => ⟨⟨rfl, rfl, rfl, ⟨by omega, by omega⟩, by omega, by omega⟩, by simp only [inR]; omega, by simp only [inR]; omega, condP_dec (fun s5 => ⟨⟨rfl, rfl, rfl, by omega, by omega⟩, condP_dec (fun q => ⟨trivial, condP_dec (fun q' => absurd q' (idF4i r2)) (fun q' => ⟨⟨trivial, trivial⟩, ?_⟩)⟩) (fun q => ⟨⟨trivial, trivial⟩, ?_⟩)⟩) (fun s5 => ⟨⟨trivial, trivial⟩, ?_⟩)⟩)
      (fun s4 => condP_dec (fun s5 => absurd s5 (by omega)) (fun s5 => ⟨⟨trivial, trivial⟩, ?_⟩))) (fun s3 => condP_dec (fun s5 => absurd s5 (by omega)) (fun s5 => ⟨⟨trivial, trivial⟩, ?_⟩))⟩
    · exact key st _ (idF 4) _ (.inr (.inr ⟨s5, by omega, idF_valid _, idF4i r2⟩)) (by omega)
    · exact key st _ _ _ (.inr (.inr ⟨s5, by omega, idF_valid _, q⟩)) (by omega)
    · exact key st _ _ _ (.inl ⟨by omega, by omega, rfl⟩) (by omega)
    · exact key st _ _ _ (.inr (.inl ⟨by omega, rfl, rfl⟩)) (by omega)
    · exact key st _ _ _ (.inr (.inl ⟨by omega, rfl, rfl⟩)) (by omega)
  · exact h.elim
theorem mmsg_ok (hP : C.P = Tryz.prog) : RSpecOK C 46 R_mmsg := by
  rintro args objs R h
  unfold R_mmsg at h
  split at h
  · rename_i sz n f a t
    obtain ⟨rfl, rfl, hf, ha, hR⟩ := h
    rw [hf] at hR ⊢
    generalize vInt f = v at *
    have hw : vInt (intRow v) = v := rfl
    refine RSpecOK.wpL (prg hP) [(27, .det S_next), (47, .det S_outlet), (48, .det S_product), (44, .det S_device), (45, .rel R_visit)] [] 0 (.cons (next_ok hP) (.cons (outlet_ok hP) (.cons (tproduct_ok hP) (.cons (device_ok hP) (.cons (mvisit_ok hP) .nil))))) (hP ▸ Tryz.func46) rfl rfl rfl [] (by kernel_rfl) trivial ?_
    rw [nf_mmsg, hw]
    have r1 := nextV_range (show (1 : Int) ≤ 3 by omega) n v a
    have r2 := nextV_range (show (1 : Int) ≤ 9 by omega) n v (a + 1)
    have r4 := nextV_range (show (1 : Int) ≤ 3 by omega) n v (a + 1 + 1 + 1)
    have r6 := nextV_range (show (1 : Int) ≤ 4 by omega) n v (a + 1 + 1 + 1 + 1 + 1)
    have r7 := nextV_range (show (1 : Int) ≤ 3 by omega) n v (a + 1 + 1 + 1 + 1 + 1 + 1)
    have r8 := nextV_range (show (1 : Int) ≤ 9 by omega) n v (a + 1 + 1 + 1 + 1 + 1 + 1 + 1)
    have hd := devF_ok (nextV n v a 3).toNat (by omega)
    have ho := outF_ok (nextV n v (a + 1 + 1 + 1) 3).toNat (by omega)
    have hd' := devF_ok (nextV n v (a + 1 + 1 + 1 + 1 + 1 + 1) 3).toNat (by omega)
    refine ⟨⟨rfl, rfl, rfl, by omega, by omega⟩, ⟨rfl, rfl, rfl, ⟨by omega, by omega⟩, by omega, by omega⟩, by simp only [inR]; omega, ⟨rfl, rfl, rfl, ⟨by omega, by omega⟩, by omega, by omega⟩, condP_dec (fun q => ⟨⟨rfl, rfl, rfl, by omega, by omega⟩, ⟨rfl, rfl, rfl, by omega, by omega⟩, ⟨rfl, rfl, rfl, ⟨by omega, by omega⟩, by omega, by omega⟩, by simp only [inR]; omega, ⟨rfl, rfl, rfl, by omega, by omega⟩, ⟨rfl, rfl, rfl, ⟨by omega, by omega⟩, by omega, by omega⟩, by simp only [inR]; omega, ⟨trivial, trivial⟩, ?_⟩)
      (fun q => ⟨rfl, rfl, rfl, ⟨by omega, by omega⟩, fun x a' hx ha' => ⟨⟨trivial, trivial⟩, ?_⟩⟩)⟩
    · exact hR ⟨devF (nextV n v a 3), 1 + nextV n v (a + 1) 9, 2, ⟨[], [], 0, 0, 0, 0, []⟩, ⟨outF (nextV n v (a + 1 + 1 + 1) 3), idF (nextV n v (a + 1 + 1 + 1 + 1) 4), 1440 + nextV n v (a + 1 + 1 + 1 + 1 + 1) 4, devF (nextV n v (a + 1 + 1 + 1 + 1 + 1 + 1) 3), 1 + nextV n v (a + 1 + 1 + 1 + 1 + 1 + 1 + 1) 9⟩⟩ _
        ⟨msg_madeD hd.1 (by omega) (slot_made ho.1 (idF_valid _) (by omega)) hd'.1 (by omega), hd.2, Nat.zero_le _, ho.2, hd'.2⟩ (by omega)
    · exact hR ⟨devF (nextV n v a 3), 1 + nextV n v (a + 1) 9, 1, x, ⟨[], [], 0, [], 0⟩⟩ a' ⟨msg_madeV hd.1 (by omega) hx.ok, hd.2, hx.o, Nat.zero_le _, Nat.zero_le _⟩ (by omega)
  · exact h.elim
end Go.Eng
