/- Lemmas that the tied card of ScannerValid is proved by. -/
import Derived.Test.YtokpcnppihgdlaaGreatDoorGm
import Derived.Test.YtokpcnppihgdlaaGreatDoorGp
import Derived.Test.YtokpcnppihgdlaaGreatDoorGl
import Derived.Test.YtokpcnppihgdlaaGreatDoorGn
/- Runes: the library's functions compute what the plain functions say. -/
namespace Go.Eng
open Go.Proofs Go.RowKit
set_option maxRecDepth 20000

theorem nf_indexRune (s : List UInt8) (r : Int) (R : AV → List (Nat × AObj) → Prop) : wpFn te [(174, .det S_indexByte), (175, .det S_validRune)] [(38, L_irError s), (5, L_irMain s (Utf8.encode r).data.toList), (25, fun _ _ => False)] 0 Tryz.f162 [.str s, .int .i32 r] [] R = (condP (decide ((0 : Int) ≤ r)) (condP (decide (r < (128 : Int))) (inR .u8 r ∧ True ∧ R (.int .i64 (Lib.indexByte s (Nat.toUInt8 (Int.toNat r)))) []) (condP (decide (r = (65533 : Int))) (some (St.mk [(0, .str s), (175, .ptr 0 0)] [(0, .siter s 0)] 1 []) = some (St.mk [(0, .str s), (175, .ptr 0 0)] [(0, .siter s 0)] 1 []) ∧ ascii s = true ∧ R (.int .i64 (-1 : Int)) []) (True ∧ condP (!Lib.validRune r) (R (.int .i64 (-1 : Int)) []) (True ∧ inR .i64 ((↑(List.length (Array.toList (ByteArray.data (Utf8.encode r)))) : Int) - (1 : Int)) ∧ some (St.mk [(0, .str s), (7, .str (Array.toList (ByteArray.data (Utf8.encode r)))), (8, .int .i64 ((↑(List.length (Array.toList (ByteArray.data (Utf8.encode r)))) : Int) - (1 : Int))), (9, .int .i64 ((↑(List.length (Array.toList (ByteArray.data (Utf8.encode r)))) : Int) - (1 : Int)))] [] 0 []) = some (St.mk [(0, .str s), (7, .str (Array.toList (ByteArray.data (Utf8.encode r)))), (8, .int .i64 ((↑(List.length (Array.toList (ByteArray.data (Utf8.encode r)))) : Int) - (1 : Int))), (9, .int .i64 ((↑(List.length (Array.toList (ByteArray.data (Utf8.encode r)))) : Int) - (1 : Int)))] [] 0 []) ∧ ascii s = true ∧ List.length s ≤ 1000000 ∧ 2 ≤ List.length (Array.toList (ByteArray.data (Utf8.encode r))) ∧ List.length (Array.toList (ByteArray.data (Utf8.encode r))) ≤ 4 ∧ 128 ≤ UInt8.toNat (List.getD (Array.toList (ByteArray.data (Utf8.encode r))) (List.length (Array.toList (ByteArray.data (Utf8.encode r))) - 1) (0 : UInt8)) ∧ R (.int .i64 (-1 : Int)) [] ∧ R (.int .i64 (-1 : Int)) [])))) (condP (decide (r = (65533 : Int))) (some (St.mk [(0, .str s), (175, .ptr 0 0)] [(0, .siter s 0)] 1 []) = some (St.mk [(0, .str s), (175, .ptr 0 0)] [(0, .siter s 0)] 1 []) ∧ ascii s = true ∧ R (.int .i64 (-1 : Int)) []) (True ∧ condP (!Lib.validRune r) (R (.int .i64 (-1 : Int)) []) (True ∧ inR .i64 ((↑(List.length (Array.toList (ByteArray.data (Utf8.encode r)))) : Int) - (1 : Int)) ∧ some (St.mk [(0, .str s), (7, .str (Array.toList (ByteArray.data (Utf8.encode r)))), (8, .int .i64 ((↑(List.length (Array.toList (ByteArray.data (Utf8.encode r)))) : Int) - (1 : Int))), (9, .int .i64 ((↑(List.length (Array.toList (ByteArray.data (Utf8.encode r)))) : Int) - (1 : Int)))] [] 0 []) = some (St.mk [(0, .str s), (7, .str (Array.toList (ByteArray.data (Utf8.encode r)))), (8, .int .i64 ((↑(List.length (Array.toList (ByteArray.data (Utf8.encode r)))) : Int) - (1 : Int))), (9, .int .i64 ((↑(List.length (Array.toList (ByteArray.data (Utf8.encode r)))) : Int) - (1 : Int)))] [] 0 []) ∧ ascii s = true ∧ List.length s ≤ 1000000 ∧ 2 ≤ List.length (Array.toList (ByteArray.data (Utf8.encode r))) ∧ List.length (Array.toList (ByteArray.data (Utf8.encode r))) ≤ 4 ∧ 128 ≤ UInt8.toNat (List.getD (Array.toList (ByteArray.data (Utf8.encode r))) (List.length (Array.toList (ByteArray.data (Utf8.encode r))) - 1) (0 : UInt8)) ∧ R (.int .i64 (-1 : Int)) [] ∧ R (.int .i64 (-1 : Int)) [])))) := by kernel_rfl
theorem nf_irError (s : List UInt8) (k : Nat) (P : Nat → Prop) (R : Exit → St → Prop) : roundP ⟨te, [], [], 0, 187, 0⟩ (loopB Tryz.f162 38) [0, 175] [] [4] (S_irState s) P R (S_irState s k) = (condP (decide (k < List.length s)) (True ∧ condP (decide ((↑(Prod.fst (runeAt s k)) : Int) = (65533 : Int))) (R .ret (St.mk [(4, .int .i64 (↑k : Int))] [] 0 [])) (∃ (i' : Nat), some (St.mk [(0, .str s), (175, .ptr 0 0)] [(0, .siter s (k + Prod.snd (runeAt s k)))] 1 []) = some (St.mk [(0, .str s), (175, .ptr 0 0)] [(0, .siter s i')] 1 []) ∧ P i')) (True ∧ R (.exit 9) (St.mk [] [] 0 []))) := by kernel_rfl
theorem nf_irMain (s e : List UInt8) (P : Unit → Prop) (R : Exit → St → Prop) : roundP ⟨te, [(174, .det S_indexByte)], [(12, fun _ _ => False), (1015, fun _ _ => False), (1016, fun _ _ => False)], 0, 187, 0⟩ (loopB Tryz.f162 5) [0, 7, 8, 9] [] [4] (fun _ => S_irState2 s e) P R (S_irState2 s e) = (condP (decide ((↑(List.length e) : Int) - (1 : Int) < (↑(List.length s) : Int))) (((0 : Int) ≤ (↑(List.length e) : Int) - (1 : Int) ∧ (↑(List.length e) : Int) - (1 : Int) < (↑(List.length s) : Int)) ∧ ((0 : Int) ≤ (↑(List.length e) : Int) - (1 : Int) ∧ (↑(List.length e) : Int) - (1 : Int) < (↑(List.length e) : Int)) ∧ condP (!decide ((↑(UInt8.toNat (List.getD s (Int.toNat ((↑(List.length e) : Int) - (1 : Int))) (0 : UInt8))) : Int) = (↑(UInt8.toNat (List.getD e (Int.toNat ((↑(List.length e) : Int) - (1 : Int))) (0 : UInt8))) : Int))) (inR .i64 ((↑(List.length e) : Int) - (1 : Int) + (1 : Int)) ∧ ((0 : Int) ≤ (↑(List.length e) : Int) - (1 : Int) + (1 : Int) ∧ (↑(List.length e) : Int) - (1 : Int) + (1 : Int) ≤ (↑(List.length s) : Int)) ∧ ((0 : Int) ≤ (↑(List.length e) : Int) - (1 : Int) ∧ (↑(List.length e) : Int) - (1 : Int) < (↑(List.length e) : Int)) ∧ True ∧ condP (decide (Lib.indexByte (List.drop (Int.toNat ((↑(List.length e) : Int) - (1 : Int) + (1 : Int))) s) (Nat.toUInt8 (Int.toNat (↑(UInt8.toNat (List.getD e (Int.toNat ((↑(List.length e) : Int) - (1 : Int))) (0 : UInt8))) : Int))) < (0 : Int))) (R .ret (St.mk [(4, .int .i64 (-1 : Int))] [] 0 [])) (inR .i64 (Lib.indexByte (List.drop (Int.toNat ((↑(List.length e) : Int) - (1 : Int) + (1 : Int))) s) (Nat.toUInt8 (Int.toNat (↑(UInt8.toNat (List.getD e (Int.toNat ((↑(List.length e) : Int) - (1 : Int))) (0 : UInt8))) : Int))) + (1 : Int)) ∧ inR .i64 ((↑(List.length e) : Int) - (1 : Int) + (Lib.indexByte (List.drop (Int.toNat ((↑(List.length e) : Int) - (1 : Int) + (1 : Int))) s) (Nat.toUInt8 (Int.toNat (↑(UInt8.toNat (List.getD e (Int.toNat ((↑(List.length e) : Int) - (1 : Int))) (0 : UInt8))) : Int))) + (1 : Int))) ∧ False)) False) (R (.exit 1) (St.mk [] [] 0 []))) := by kernel_rfl
theorem nf_containsRune (s : List UInt8) (r : Int) (R : AV → List (Nat × AObj) → Prop) : wpFn te [(162, .det S_indexRune)] [] 0 Tryz.f146 [.str s, .int .i32 r] [] R = ((ascii s = true ∧ List.length s ≤ 1000000 ∧ (0 : Int) ≤ r ∧ r ≤ (1114111 : Int)) ∧ R (.bool (decide ((0 : Int) ≤ idxRune s r))) []) := by kernel_rfl


variable {C : Ctx} [C.Loose]

theorem indexByte_ok (hP : C.P = Tryz.prog) : SpecOK C 174 S_indexByte := by
  rintro args objs U Os vc h hvc
  unfold S_indexByte at h
  split at h <;> simp only [Option.some.injEq, Prod.mk.injEq, reduceCtorEq] at h
  rename_i s c
  obtain ⟨rfl, rfl, rfl⟩ := h
  refine ACalls.below ⟨Tryz.f174, hP ▸ Tryz.func174, rfl, by decide⟩ fun w M cargs _ _ hM hl hv => ?_
  obtain ⟨a, b, rfl⟩ := mem2 hl
  have e1 := (hv 0 _ _ rfl rfl).str_iff
  have e2 := (hv 1 _ _ rfl rfl).int_iff
  subst e1; subst e2
  rw [hP]
  refine (Tryz.strings_IndexByte ⟨s.toArray⟩ c w).mono ?_
  rintro e w' ⟨rfl, rfl⟩
  exact ⟨_, rfl, Below.refl _ _, .int⟩

theorem validRune_ok (hP : C.P = Tryz.prog) : SpecOK C 175 S_validRune := by
  rintro args objs U Os vc h hvc
  unfold S_validRune at h
  split at h <;> simp only [Option.some.injEq, Prod.mk.injEq, reduceCtorEq] at h
  rename_i r
  obtain ⟨rfl, rfl, rfl⟩ := h
  refine ACalls.below ⟨Tryz.f175, hP ▸ Tryz.func175, rfl, by decide⟩ fun w M cargs _ _ hM hl hv => ?_
  obtain ⟨a, rfl⟩ := mem1 hl
  have e1 := (hv 0 _ _ rfl rfl).int_iff
  subst e1
  rw [hP]
  refine (Tryz.utf8_ValidRune r w).mono ?_
  rintro e w' ⟨rfl, rfl⟩
  exact ⟨_, rfl, Below.refl _ _, .bool⟩

theorem irError_ok (hP : C.P = Tryz.prog) (s : List UInt8) : LoopOK C 0 187 (loopC Tryz.f162 38) (L_irError s) := by
  have _ : C.Loose := inferInstance
  rintro st Q ⟨h0, ha, hQ⟩
  refine LoopOK.mk (prg hP) [] 0 .nil [0, 175] [] [4] (S_irState s) (fun k => k ≤ s.length) (fun k => s.length - k) 0 (Nat.zero_le _) h0 fun k hk => ?_
  rw [nf_irError]
  refine condP_intro (fun h => ?_) (fun h => ⟨trivial, hQ⟩)
  have h := of_decide_eq_true h
  have hlt := ascii_at ha h
  rw [runeAt_lo h hlt]
  refine ⟨trivial, condP_intro (fun h' => ?_) (fun _ => ⟨k + 1, rfl, by omega, by omega⟩)⟩
  have h' := of_decide_eq_true h'
  simp only at h'
  omega

theorem irMain_ok (hP : C.P = Tryz.prog) (s e : List UInt8) : LoopOK C 0 187 (loopC Tryz.f162 5) (L_irMain s e) := by
  rintro st Q ⟨h0, ha, hs, h2, h4, hl, hQ1, hQ2⟩
  refine LoopOK.mkL (prg hP) [(174, .det S_indexByte)] [(12, fun _ _ => False), (1015, fun _ _ => False), (1016, fun _ _ => False)] 0 (.cons (indexByte_ok hP) .nil)
    [(loopC Tryz.f162 12, fun _ _ => False), (regC Tryz.f162 15, fun _ _ => False), (regC Tryz.f162 16, fun _ _ => False)] (by kernel_rfl)
    ⟨fun _ _ h => h.elim, fun _ _ h => h.elim, fun _ _ h => h.elim, trivial⟩ [0, 7, 8, 9] [] [4] (fun _ : Unit => S_irState2 s e) (fun _ => True) (fun _ => 0) () trivial h0 fun _ _ => ?_
  rw [nf_irMain]
  refine condP_intro (fun h => ?_) (fun h => hQ1)
  have h := of_decide_eq_true h
  have e1 : ((e.length : Int) - 1).toNat = e.length - 1 := by omega
  have e2 : ((e.length : Int) - 1 + 1).toNat = e.length := by omega
  have hlo := ascii_at ha (k := e.length - 1) (by omega)
  simp only [e1, e2, inR]
  have hne : decide (((s.getD (e.length - 1) 0).toNat : Int) = ((e.getD (e.length - 1) 0).toNat : Int)) = false := decide_eq_false (by omega)
  rw [hne]
  have hb : (e.getD (e.length - 1) 0).toNat < 256 := (e.getD (e.length - 1) 0).toNat_lt
  have hneg := indexByte_ascii (ascii_drop ha e.length) (c := ((e.getD (e.length - 1) 0).toNat : Int).toNat.toUInt8) (by rw [u8_round]; exact hl)
  refine ⟨by omega, by omega, by omega, by omega, by omega, trivial, ?_⟩
  rw [hneg]
  exact hQ2

theorem indexRune_ok (hP : C.P = Tryz.prog) : SpecOK C 162 S_indexRune := by
  rintro args objs U Os vc h hvc
  unfold S_indexRune at h
  split at h <;> simp only [Option.some.injEq, Prod.mk.injEq, reduceCtorEq] at h
  rename_i s r
  obtain ⟨rfl, rfl, rfl⟩ := h
  obtain ⟨ha, hs, h0, h1⟩ := hvc
  refine SpecOK.wpL (prg hP) [(174, .det S_indexByte), (175, .det S_validRune)] [(38, L_irError s), (5, L_irMain s (Utf8.encode r).data.toList), (25, fun _ _ => False)] 0
    (.cons (indexByte_ok hP) (.cons (validRune_ok hP) .nil)) (hP ▸ Tryz.func162) rfl rfl rfl
    [(loopC Tryz.f162 38, L_irError s), (loopC Tryz.f162 5, L_irMain s (Utf8.encode r).data.toList), (loopC Tryz.f162 25, fun _ _ => False)] (by kernel_rfl)
    ⟨irError_ok hP s, irMain_ok hP s _, fun _ _ h => h.elim, trivial⟩ ?_
  rw [nf_indexRune]
  refine condP_intro (fun _ => condP_intro (fun h => ?_) (fun h => ?_)) (fun h => absurd h0 (of_decide_eq_false h))
  · have h' := of_decide_eq_true h
    refine ⟨by simp only [inR]; omega, trivial, ?_, rfl⟩
    simp only [idxRune, h]
  · have h' := of_decide_eq_false h
    refine condP_intro (fun _ => ⟨rfl, ha, ?_, rfl⟩) (fun _ => ⟨trivial, condP_intro (fun _ => ⟨?_, rfl⟩) (fun hv => ?_)⟩)
    · simp only [idxRune, h]
    · simp only [idxRune, h]
    · have hv : Lib.validRune r = true := by simpa using hv
      obtain ⟨l1, l2, l3⟩ := encode_last (by omega) hv
      refine ⟨trivial, by simp only [inR]; omega, rfl, ha, hs, l1, l2, l3, ⟨?_, rfl⟩, ⟨?_, rfl⟩⟩
      · simp only [idxRune, h]
      · simp only [idxRune, h]

theorem containsRune_ok (hP : C.P = Tryz.prog) : SpecOK C 146 S_containsRune := by
  rintro args objs U Os vc h hvc
  unfold S_containsRune at h
  split at h <;> simp only [Option.some.injEq, Prod.mk.injEq, reduceCtorEq] at h
  rename_i s r
  obtain ⟨rfl, rfl, rfl⟩ := h
  refine SpecOK.wp0 (prg hP) [(162, .det S_indexRune)] 0 (.cons (indexRune_ok hP) .nil) (hP ▸ Tryz.func146) rfl rfl rfl ?_
  rw [nf_containsRune]
  exact ⟨hvc, rfl, rfl⟩

end Go.Eng
/- Names of products: the functions compute what the plain functions say. -/
namespace Go.Eng
open Go.Proofs Go.RowKit
set_option maxRecDepth 20000

theorem nf_name1 (r : Int) (R : AV → List (Nat × AObj) → Prop) : wpFn te [(146, .det S_containsRune)] [] 0 Tryz.f145 [.int .i32 r] [] R = ((true = true ∧ 38 ≤ 1000000 ∧ (0 : Int) ≤ r ∧ r ≤ (1114111 : Int)) ∧ R (.bool !decide ((0 : Int) ≤ idxRune ([(97 : UInt8), 98, 99, 100, 101, 102, 103, 104, 105, 106, 107, 108, 109, 110, 111, 112, 113, 114, 115, 116, 117, 118, 119, 120, 121, 122, 48, 49, 50, 51, 52, 53, 54, 55, 56, 57, 45, 46]) r)) []) := by kernel_rfl
theorem nf_indexFunc (s : List UInt8) (R : AV → List (Nat × AObj) → Prop) : wpFn te [] [(2, L_indexFunc s)] 0 Tryz.f173 [.str s, .func 145 [], .bool true] [] R = (some (St.mk [(1, .func 145 []), (2, .bool true), (10, .ptr 0 0)] [(0, .siter s 0)] 1 []) = some (St.mk [(1, .func 145 []), (2, .bool true), (10, .ptr 0 0)] [(0, .siter s 0)] 1 []) ∧ condP (List.all s isNB) (R (.int .i64 (-1 : Int)) []) (R (.int .i64 (↑(badAt s) : Int)) [])) := by kernel_rfl
theorem nf_indexFunc_round (s : List UInt8) (k : Nat) (P : Nat → Prop) (R : Exit → St → Prop) : roundP ⟨te, [(145, .det S_name1)], [], 0, 21, 0⟩ (loopB Tryz.f173 2) [1, 2, 10] [] [6] (S_ifState s) P R (S_ifState s k) = (condP (decide (k < List.length s)) (True ∧ ((0 : Int) ≤ (↑(Prod.fst (runeAt s k)) : Int) ∧ (↑(Prod.fst (runeAt s k)) : Int) ≤ (1114111 : Int)) ∧ condP (decide ((!decide ((0 : Int) ≤ idxRune nameAll (↑(Prod.fst (runeAt s k)) : Int))) = true)) (R .ret (St.mk [(6, .int .i64 (↑k : Int))] [] 0 [])) (∃ (i' : Nat), some (St.mk [(1, .func 145 []), (2, .bool true), (10, .ptr 0 0)] [(0, .siter s (k + Prod.snd (runeAt s k)))] 1 []) = some (St.mk [(1, .func 145 []), (2, .bool true), (10, .ptr 0 0)] [(0, .siter s i')] 1 []) ∧ P i')) (True ∧ R (.exit 0) (St.mk [] [] 0 []))) := by kernel_rfl
theorem nf_IndexFunc (s : List UInt8) (R : AV → List (Nat × AObj) → Prop) : wpFn te [(173, .det S_indexFunc)] [] 0 Tryz.f161 [.str s, .func 145 []] [] R = (True ∧ R (.int .i64 (firstBad s)) []) := by kernel_rfl
theorem nf_ContainsFunc (s : List UInt8) (R : AV → List (Nat × AObj) → Prop) : wpFn te [(161, .det S_IndexFunc)] [] 0 Tryz.f144 [.str s, .func 145 []] [] R = (True ∧ R (.bool (decide ((0 : Int) ≤ firstBad s))) []) := by kernel_rfl
theorem nf_name (s : List UInt8) (R : AV → List (Nat × AObj) → Prop) : wpFn te [(142, .det S_trim), (144, .det S_ContainsFunc)] [] 0 Tryz.f125 [.str s] [] R = (condP (!decide (s = [])) (condP (decide ((↑(List.length s) : Int) ≤ (24 : Int))) (((0 : Int) ≤ (1 : Int) ∧ (1 : Int) ≤ (↑(List.length s) : Int)) ∧ (List.length (List.take (Int.toNat (1 : Int)) s) ≤ 9223372036854775807 ∧ 2 ≤ 36 ∧ 36 < 4294967281 ∧ ∀ (b : UInt8), b ∈ [(97 : UInt8), 98, 99, 100, 101, 102, 103, 104, 105, 106, 107, 108, 109, 110, 111, 112, 113, 114, 115, 116, 117, 118, 119, 120, 121, 122, 48, 49, 50, 51, 52, 53, 54, 55, 56, 57] → UInt8.toNat b < 128) ∧ condP (decide (trimF ([(97 : UInt8), 98, 99, 100, 101, 102, 103, 104, 105, 106, 107, 108, 109, 110, 111, 112, 113, 114, 115, 116, 117, 118, 119, 120, 121, 122, 48, 49, 50, 51, 52, 53, 54, 55, 56, 57]) (List.take (Int.toNat (1 : Int)) s) = [])) (True ∧ R (.bool !!List.all s isNB) []) (R (.bool false) [])) (R (.bool false) [])) (R (.bool false) [])) := by kernel_rfl


variable {C : Ctx} [C.Loose]

theorem name1_ok (hP : C.P = Tryz.prog) : SpecOK C 145 S_name1 := by
  rintro args objs U Os vc h hvc
  unfold S_name1 at h
  split at h <;> simp only [Option.some.injEq, Prod.mk.injEq, reduceCtorEq] at h
  rename_i r
  obtain ⟨rfl, rfl, rfl⟩ := h
  refine SpecOK.wp0 (prg hP) [(146, .det S_containsRune)] 0 (.cons (containsRune_ok hP) .nil) (hP ▸ Tryz.func145) rfl rfl rfl ?_
  rw [nf_name1]
  exact ⟨⟨rfl, by omega, hvc.1, hvc.2⟩, rfl, rfl⟩

theorem indexFunc_loop (hP : C.P = Tryz.prog) (s : List UInt8) : LoopOK C 0 21 (loopC Tryz.f173 2) (L_indexFunc s) := by
  rintro st Q ⟨h0, hQ⟩
  have hQ := condP_elim hQ
  refine LoopOK.mk (prg hP) [(145, .det S_name1)] 0 (.cons (name1_ok hP) .nil) [1, 2, 10] [] [6] (S_ifState s) (fun k => k ≤ s.length ∧ ∀ j, j < k → isNB (s.getD j 0) = true) (fun k => s.length - k) 0 ⟨Nat.zero_le _, fun j h => by omega⟩ h0 fun k ⟨hk, hall⟩ => ?_
  rw [nf_indexFunc_round]
  refine condP_intro (fun h => ?_) (fun h => ⟨trivial, ?_⟩)
  · have h := of_decide_eq_true h
    have hle := runeAt_le h
    refine ⟨trivial, ⟨by omega, by omega⟩, ?_⟩
    -- what the predicate says of the rune is what isNB says of the byte
    have key : (decide (0 ≤ idxRune nameAll ((runeAt s k).1 : Int))) = isNB (s.getD k 0) ∧ (isNB (s.getD k 0) = true → (runeAt s k).2 = 1) := by
      by_cases hlo : (s.getD k 0).toNat < 128
      · rw [runeAt_lo h hlo]
        exact ⟨nameRune_lo _ hlo, fun _ => rfl⟩
      · have hh := runeAt_hi h (by omega)
        have hn : isNB (s.getD k 0) = false := by
          generalize s.getD k 0 = b at *
          simp only [isNB, isLet, Bool.or_eq_false_iff, Bool.and_eq_false_imp, decide_eq_true_eq, decide_eq_false_iff_not]
          omega
        rw [nameRune_hi _ hh.1, hn]
        exact ⟨rfl, fun h => by cases h⟩
    rw [key.1]
    refine condP_intro (fun hb => ?_) (fun hb => ?_)
    · have hb : isNB (s.getD k 0) = false := by simpa using hb
      have hf : s.all isNB = false := by
        cases ha : s.all isNB with
        | false => rfl
        | true =>
          have := List.all_eq_true.1 ha (s.getD k 0) (by simp [List.getD, h])
          rw [hb] at this; cases this
      obtain ⟨b1, b2, b3⟩ := badAt_spec hf
      have : badAt s = k := by
        rcases Nat.lt_trichotomy (badAt s) k with hl | hl | hl
        · rw [hall _ hl] at b2; cases b2
        · exact hl
        · rw [b3 k hl] at hb; cases hb
      have hq := hQ.2 hf
      rw [this] at hq
      exact hq
    · have hb : isNB (s.getD k 0) = true := by simpa using hb
      rw [key.2 hb]
      refine ⟨k + 1, rfl, ⟨by omega, fun j hj => ?_⟩, by omega⟩
      rcases Nat.lt_succ_iff_lt_or_eq.1 hj with hj | rfl
      · exact hall j hj
      · exact hb
  · have h := of_decide_eq_false h
    refine hQ.1 (List.all_eq_true.2 fun b hb => ?_)
    obtain ⟨j, hj, rfl⟩ := List.getElem_of_mem hb
    have := hall j (by omega)
    simpa [List.getD, hj] using this

theorem indexFunc_ok (hP : C.P = Tryz.prog) : SpecOK C 173 S_indexFunc := by
  rintro args objs U Os vc h hvc
  unfold S_indexFunc at h
  split at h <;> simp only [Option.some.injEq, Prod.mk.injEq, reduceCtorEq] at h
  rename_i s
  obtain ⟨rfl, rfl, rfl⟩ := h
  refine SpecOK.wpL (prg hP) [] [(2, L_indexFunc s)] 0 .nil (hP ▸ Tryz.func173) rfl rfl rfl [(loopC Tryz.f173 2, L_indexFunc s)] (by kernel_rfl) ⟨indexFunc_loop hP s, trivial⟩ ?_
  rw [nf_indexFunc]
  refine ⟨rfl, condP_intro (fun h => ⟨?_, rfl⟩) (fun h => ⟨?_, rfl⟩)⟩
  · simp only [firstBad, h]
  · simp only [firstBad, h]

theorem IndexFunc_ok (hP : C.P = Tryz.prog) : SpecOK C 161 S_IndexFunc := by
  rintro args objs U Os vc h hvc
  unfold S_IndexFunc at h
  split at h <;> simp only [Option.some.injEq, Prod.mk.injEq, reduceCtorEq] at h
  rename_i s
  obtain ⟨rfl, rfl, rfl⟩ := h
  refine SpecOK.wp0 (prg hP) [(173, .det S_indexFunc)] 0 (.cons (indexFunc_ok hP) .nil) (hP ▸ Tryz.func161) rfl rfl rfl ?_
  rw [nf_IndexFunc]
  exact ⟨trivial, rfl, rfl⟩

theorem ContainsFunc_ok (hP : C.P = Tryz.prog) : SpecOK C 144 S_ContainsFunc := by
  rintro args objs U Os vc h hvc
  unfold S_ContainsFunc at h
  split at h <;> simp only [Option.some.injEq, Prod.mk.injEq, reduceCtorEq] at h
  rename_i s
  obtain ⟨rfl, rfl, rfl⟩ := h
  refine SpecOK.wp0 (prg hP) [(161, .det S_IndexFunc)] 0 (.cons (IndexFunc_ok hP) .nil) (hP ▸ Tryz.func144) rfl rfl rfl ?_
  rw [nf_ContainsFunc, firstBad_neg]
  exact ⟨trivial, rfl, rfl⟩

theorem name_ok (hP : C.P = Tryz.prog) : SpecOK C 125 S_name := by
  rintro args objs U Os vc h hvc
  unfold S_name at h
  split at h <;> simp only [Option.some.injEq, Prod.mk.injEq, reduceCtorEq] at h
  rename_i s
  obtain ⟨rfl, rfl, rfl⟩ := h
  refine SpecOK.wp0 (prg hP) [(142, .det S_trim), (144, .det S_ContainsFunc)] 0 (.cons (trim_ok hP) (.cons (ContainsFunc_ok hP) .nil)) (hP ▸ Tryz.func125) rfl rfl rfl ?_
  rw [nf_name]
  cases s with
  | nil => exact ⟨rfl, rfl⟩
  | cons b r =>
    have e : (b :: r).take (Int.toNat 1) = [b] := rfl
    have hasc : ∀ x ∈ nameFirst, UInt8.toNat x < 128 := by decide +kernel
    rw [e, trimF_first]
    have hl : (List.length (b :: r) : Int) = r.length + 1 := by simp
    have hl' : List.length (b :: r) = r.length + 1 := rfl
    have hd : (b :: r).getD 0 0 = b := rfl
    refine condP_intro (fun _ => condP_intro (fun h => ⟨by omega, ⟨by simp, by omega, by omega, hasc⟩, condP_intro (fun h' => ⟨trivial, ?_, rfl⟩) (fun h' => ⟨?_, rfl⟩)⟩) (fun h => ⟨?_, rfl⟩)) (fun h => by simp at h)
    · have h := of_decide_eq_true h
      simp only [nameF, hd, h', hl', Bool.not_not]
      rw [decide_eq_true (by omega), decide_eq_true (by omega)]
      rfl
    · simp only [nameF, hd, h', Bool.and_false, Bool.false_and]
    · have h := of_decide_eq_false h
      simp only [nameF, hl']
      rw [decide_eq_false (p := r.length + 1 ≤ 24) (by omega)]
      simp

end Go.Eng
/- The package product: its functions compute what the plain functions say. -/
namespace Go.Eng
open Go.Proofs
set_option maxRecDepth 20000

theorem nf_digits (s : List UInt8) (a b : Int) (R : AV → List (Nat × AObj) → Prop) : wpFn te [(142, .det S_trim)] [] 0 Tryz.f121 [.str s, .int .i64 a, .int .i64 b] [] R = (condP (decide ((↑(List.length s) : Int) = a)) ((List.length s ≤ 9223372036854775807 ∧ 2 ≤ 10 ∧ 10 < 4294967281 ∧ ∀ (b : UInt8), b ∈ [(48 : UInt8), 49, 50, 51, 52, 53, 54, 55, 56, 57] → UInt8.toNat b < 128) ∧ R (.bool (decide (trimF ([(48 : UInt8), 49, 50, 51, 52, 53, 54, 55, 56, 57]) s = []))) []) (condP (decide ((↑(List.length s) : Int) = b)) ((List.length s ≤ 9223372036854775807 ∧ 2 ≤ 10 ∧ 10 < 4294967281 ∧ ∀ (b : UInt8), b ∈ [(48 : UInt8), 49, 50, 51, 52, 53, 54, 55, 56, 57] → UInt8.toNat b < 128) ∧ R (.bool (decide (trimF ([(48 : UInt8), 49, 50, 51, 52, 53, 54, 55, 56, 57]) s = []))) []) (R (.bool false) []))) := by kernel_rfl
theorem nf_checkDigit (s : List UInt8) (R : AV → List (Nat × AObj) → Prop) : wpFn te [(121, .det S_digits)] [(5, L_checkDigit s)] 0 Tryz.f122 [.str s] [] R = (((7 : Int) ≤ (100 : Int) ∧ (12 : Int) ≤ (100 : Int)) ∧ condP (!digitsF s (7 : Int) (12 : Int)) (R (.tuple [.int .i64 0, .bool false]) []) (some (St.mk [(0, .str s), (4, .int .i64 0), (11, .int .i64 (↑(List.length s) : Int)), (12, .int .i64 0)] [] 0 []) = some (St.mk [(0, .str s), (4, .int .i64 (cdSum s 0)), (11, .int .i64 (↑(List.length s) : Int)), (12, .int .i64 (↑0 : Int))] [] 0 []) ∧ List.length s ≤ 12 ∧ List.all s isDig = true ∧ (10 : Int) ≠ (0 : Int) ∧ inR .i64 ((10 : Int) - Int.tmod (cdSum s (List.length s)) (10 : Int)) ∧ (10 : Int) ≠ (0 : Int) ∧ R (.tuple [.int .i64 (Int.tmod ((10 : Int) - Int.tmod (cdSum s (List.length s)) (10 : Int)) (10 : Int)), .bool true]) [])) := by kernel_rfl
theorem nf_checkDigit_loop (s : List UInt8) (k : Nat) (P : Nat → Prop) (R : Exit → St → Prop) : roundP ⟨te, [], [], 0, 36, 0⟩ (loopB Tryz.f122 5) [0, 4, 11, 12] [4] [] (S_cd s) P R (S_cd s k) = (condP (decide ((↑k : Int) < (↑(List.length s) : Int))) (inR .i64 ((↑(List.length s) : Int) - (↑k : Int)) ∧ (2 : Int) ≠ (0 : Int) ∧ inR .i64 ((2 : Int) * Int.tmod ((↑(List.length s) : Int) - (↑k : Int)) (2 : Int)) ∧ inR .i64 ((1 : Int) + (2 : Int) * Int.tmod ((↑(List.length s) : Int) - (↑k : Int)) (2 : Int)) ∧ ((0 : Int) ≤ (↑k : Int) ∧ (↑k : Int) < (↑(List.length s) : Int)) ∧ inR .i64 (((↑(UInt8.toNat (List.getD s (Int.toNat (↑k : Int)) (0 : UInt8))) : Int) - (48 : Int)) % (256 : Int)) ∧ inR .i64 (((1 : Int) + (2 : Int) * Int.tmod ((↑(List.length s) : Int) - (↑k : Int)) (2 : Int)) * (((↑(UInt8.toNat (List.getD s (Int.toNat (↑k : Int)) (0 : UInt8))) : Int) - (48 : Int)) % (256 : Int))) ∧ inR .i64 (cdSum s k + ((1 : Int) + (2 : Int) * Int.tmod ((↑(List.length s) : Int) - (↑k : Int)) (2 : Int)) * (((↑(UInt8.toNat (List.getD s (Int.toNat (↑k : Int)) (0 : UInt8))) : Int) - (48 : Int)) % (256 : Int))) ∧ inR .i64 ((↑k : Int) + (1 : Int)) ∧ ∃ (i' : Nat), some (St.mk [(0, .str s), (4, .int .i64 (cdSum s k + ((1 : Int) + (2 : Int) * Int.tmod ((↑(List.length s) : Int) - (↑k : Int)) (2 : Int)) * (((↑(UInt8.toNat (List.getD s (Int.toNat (↑k : Int)) (0 : UInt8))) : Int) - (48 : Int)) % (256 : Int)))), (11, .int .i64 (↑(List.length s) : Int)), (12, .int .i64 ((↑k : Int) + (1 : Int)))] [] 0 []) = some (St.mk [(0, .str s), (4, .int .i64 (cdSum s i')), (11, .int .i64 (↑(List.length s) : Int)), (12, .int .i64 (↑i' : Int))] [] 0 []) ∧ P i') (R (.exit 0) (St.mk [(4, .int .i64 (cdSum s k))] [] 0 []))) := by kernel_rfl
theorem nf_validID (s : List UInt8) (R : AV → List (Nat × AObj) → Prop) : wpFn te [(121, .det S_digits), (122, .det S_checkDigit)] [] 0 Tryz.f92 [.str s] [] R = (((8 : Int) ≤ (100 : Int) ∧ (13 : Int) ≤ (100 : Int)) ∧ condP (!digitsF s (8 : Int) (13 : Int)) (R (.bool false) []) (inR .i64 ((↑(List.length s) : Int) - (1 : Int)) ∧ ((0 : Int) ≤ (↑(List.length s) : Int) - (1 : Int) ∧ (↑(List.length s) : Int) - (1 : Int) ≤ (↑(List.length s) : Int)) ∧ True ∧ ((0 : Int) ≤ (↑(List.length s) : Int) - (1 : Int) ∧ (↑(List.length s) : Int) - (1 : Int) < (↑(List.length s) : Int)) ∧ inR .i64 (((↑(UInt8.toNat (List.getD s (Int.toNat ((↑(List.length s) : Int) - (1 : Int))) (0 : UInt8))) : Int) - (48 : Int)) % (256 : Int)) ∧ R (.bool (decide (Prod.fst (cdF (List.take (Int.toNat ((↑(List.length s) : Int) - (1 : Int))) s)) = ((↑(UInt8.toNat (List.getD s (Int.toNat ((↑(List.length s) : Int) - (1 : Int))) (0 : UInt8))) : Int) - (48 : Int)) % (256 : Int)))) [])) := by kernel_rfl


variable {C : Ctx} [C.Loose]

theorem digits_ok (hP : C.P = Tryz.prog) (htrim : SpecOK C 142 S_trim) : SpecOK C 121 S_digits := by
  have _ : C.Loose := inferInstance
  rintro args objs U Os vc h hvc
  unfold S_digits at h
  split at h <;> simp only [Option.some.injEq, Prod.mk.injEq, reduceCtorEq] at h
  rename_i s a b
  obtain ⟨rfl, rfl, rfl⟩ := h
  refine SpecOK.wp0 (prg hP) [(142, .det S_trim)] 0 (.cons htrim .nil) (hP ▸ Tryz.func121) rfl rfl rfl ?_
  rw [nf_digits]
  have hm : (9223372036854775807 : Nat) = maxLen := rfl
  have hlt : ∀ b ∈ ([48, 49, 50, 51, 52, 53, 54, 55, 56, 57] : List UInt8), UInt8.toNat b < 128 := by decide
  refine condP_intro (fun h => ?_) (fun h => condP_intro (fun h' => ?_) (fun h' => ?_))
  · have h2 := of_decide_eq_true h
    refine ⟨⟨by omega, by omega, by omega, hlt⟩, ?_, rfl⟩
    simp only [digitsF, h, Bool.true_or, Bool.true_and, trimF_digits]
  · have h2 := of_decide_eq_true h'
    refine ⟨⟨by omega, by omega, by omega, hlt⟩, ?_, rfl⟩
    simp only [digitsF, h', Bool.or_true, Bool.true_and, trimF_digits]
  · simp [digitsF, h, h']

theorem cdSum_bound {s : List UInt8} (h : s.all isDig = true) : ∀ k, k ≤ s.length → 0 ≤ cdSum s k ∧ cdSum s k ≤ 27 * k
  | 0, _ => by simp [cdSum]
  | k + 1, hk => by
    have ih := cdSum_bound h k (by omega)
    have hd := isDig_at h k (by omega)
    simp only [cdSum]
    rcases Int.emod_two_eq (↑s.length - ↑k) with e | e <;> rw [e] <;> omega

theorem cd_loop_ok (hP : C.P = Tryz.prog) (s : List UInt8) : LoopOK C 0 36 (loopC Tryz.f122 5) (L_checkDigit s) := by
  have _ : C.Loose := inferInstance
  rintro st Q ⟨h0, hlen, hall, hQ⟩
  refine LoopOK.mk (prg hP) [] 0 .nil [0, 4, 11, 12] [4] [] (S_cd s) (fun k => k ≤ s.length) (fun k => s.length - k) 0 (Nat.zero_le _) h0 fun k hk => ?_
  rw [nf_checkDigit_loop]
  have hb := cdSum_bound hall k hk
  refine condP_intro (fun h => ?_) (fun h => ?_)
  · have h := of_decide_eq_true h
    have hd := isDig_at hall k (by omega)
    have e : Int.tmod (↑s.length - ↑k) 2 = (↑s.length - ↑k) % 2 := Int.tmod_eq_emod_of_nonneg (by omega)
    have e3 : ((s.getD k 0).toNat - 48 : Int) % 256 = (s.getD k 0).toNat - 48 := by omega
    simp only [inR, e, Int.toNat_natCast, e3]
    have hs : cdSum s (k + 1) = cdSum s k + (1 + 2 * ((↑s.length - ↑k) % 2)) * (↑(s.getD k 0).toNat - 48) := rfl
    rcases Int.emod_two_eq (↑s.length - ↑k) with e | e <;> rw [e] at hs ⊢ <;> and_intros <;> first
      | omega
      | exact ⟨k + 1, by rw [hs]; rfl, by omega, by omega⟩
  · have h := of_decide_eq_false h
    have hk : k = s.length := by omega
    rw [hk]; exact hQ

theorem checkDigit_ok (hP : C.P = Tryz.prog) (htrim : SpecOK C 142 S_trim) : SpecOK C 122 S_checkDigit := by
  rintro args objs U Os vc h hvc
  unfold S_checkDigit at h
  split at h <;> simp only [Option.some.injEq, Prod.mk.injEq, reduceCtorEq] at h
  rename_i s
  obtain ⟨rfl, rfl, rfl⟩ := h
  refine SpecOK.wpL (prg hP) [(121, .det S_digits)] [(5, L_checkDigit s)] 0 (.cons (digits_ok hP htrim) .nil) (hP ▸ Tryz.func122) rfl rfl rfl [(loopC Tryz.f122 5, L_checkDigit s)] (by kernel_rfl) ⟨cd_loop_ok hP s, trivial⟩ ?_
  rw [nf_checkDigit]
  refine ⟨by omega, condP_intro (fun h => ?_) (fun h => ?_)⟩
  · have h : digitsF s 7 12 = false := by simpa using h
    simp [cdF, h]
  · have h : digitsF s 7 12 = true := by simpa using h
    have h' := h
    simp only [digitsF, Bool.and_eq_true, Bool.or_eq_true, decide_eq_true_eq] at h'
    have hb := cdSum_bound h'.2 s.length (Nat.le_refl _)
    have e : Int.tmod (cdSum s s.length) 10 = cdSum s s.length % 10 := Int.tmod_eq_emod_of_nonneg (by omega)
    rw [e, Int.tmod_eq_emod_of_nonneg (by omega)]
    refine ⟨rfl, by omega, h'.2, by omega, by simp only [inR]; omega, by omega, ?_, rfl⟩
    simp [cdF, h]

theorem validID_ok (hP : C.P = Tryz.prog) (htrim : SpecOK C 142 S_trim) : SpecOK C 92 S_validID := by
  rintro args objs U Os vc h hvc
  unfold S_validID at h
  split at h <;> simp only [Option.some.injEq, Prod.mk.injEq, reduceCtorEq] at h
  rename_i s
  obtain ⟨rfl, rfl, rfl⟩ := h
  refine SpecOK.wp0 (prg hP) [(121, .det S_digits), (122, .det S_checkDigit)] 0 (.cons (digits_ok hP htrim) (.cons (checkDigit_ok hP htrim) .nil)) (hP ▸ Tryz.func92) rfl rfl rfl ?_
  rw [nf_validID]
  refine ⟨by omega, condP_intro (fun h => ?_) (fun h => ?_)⟩
  · have h : digitsF s 8 13 = false := by simpa using h
    simp [validIDF, h]
  · have h : digitsF s 8 13 = true := by simpa using h
    have h' := h
    simp only [digitsF, Bool.and_eq_true, Bool.or_eq_true, decide_eq_true_eq] at h'
    have e : (↑s.length - 1 : Int).toNat = s.length - 1 := by omega
    have hd := isDig_at h'.2 (s.length - 1) (by omega)
    rw [e]
    have e2 : ((s.getD (s.length - 1) 0).toNat - 48 : Int) % 256 = (s.getD (s.length - 1) 0).toNat - 48 := by omega
    simp only [inR, e2]
    refine ⟨by omega, by omega, trivial, by omega, by omega, ?_, trivial⟩
    simp [validIDF, h]

end Go.Eng
/- The validation of products whose attributes are plain data. -/
namespace Go.Eng
open Go.Proofs Go.RowKit
variable {C : Ctx} [C.Loose]
set_option maxRecDepth 20000
theorem nf_valw (id code brand : List UInt8) (d c a : Int) (n : Nat) (nm vl : Nat → List UInt8) (R : AV → List (Nat × AObj) → Prop) : wpFn te [(92, .det S_validID), (124, .det S_level), (125, .det S_name), (126, .det S_qty)] [(13, L_vw n nm vl)] 2 Tryz.f97 [.agg [.str id, .str code, .str brand, .int .i64 d, .int .i64 c, .int .i64 a, .view 2 n (atRow nm vl)]] [] R = (True ∧ condP (!validIDF id) (R (.int .i64 90) []) (List.length code < 4294967281 ∧ condP (decide (levelV code < (1 : Int))) (R (.int .i64 91) []) (True ∧ condP (!nameF brand) (R (.int .i64 92) []) (True ∧ condP (!decide (qtyF d c a = (0 : Int))) (R (.int .i64 93) []) (condP (decide ((12 : Int) < (↑n : Int))) (R (.int .i64 94) []) (some (St.mk [(3, .map 0), (33, .view 2 n (atRow nm vl)), (34, .int .i64 (↑n : Int)), (35, .int .i64 0)] [(0, .amap (List.map (fun (p : AV × AV) => (AV.rn (ren 0 [(65, 0)]) (Prod.fst p), AV.rn (ren 0 [(65, 0)]) (Prod.snd p))) []))] 1 []) = some (St.mk [(3, .map 0), (33, .view 2 n (atRow nm vl)), (34, .int .i64 (↑n : Int)), (35, .int .i64 (↑0 : Int))] [(0, .amap (seenM nm 0))] 1 []) ∧ n ≤ 12 ∧ (∀ (i : Nat), i < n → List.length (nm i) < 4294967281 ∧ List.length (vl i) < 4294967281) ∧ condP (atsOK nm vl n) (R (.int .i64 0) []) (R (.int .i64 94) []))))))) := by kernel_rfl
theorem nf_vw_round (n : Nat) (nm vl : Nat → List UInt8) (k : Nat) (P : Nat → Prop) (R : Exit → St → Prop) : roundP ⟨te, [(125, .det S_name)], [], 0, 59, 0⟩ (loopB Tryz.f97 13) [3, 33, 34, 35] [] [2] (S_vw n nm vl) P R (S_vw n nm vl k) = (condP (decide ((↑k : Int) < (↑n : Int))) (((0 : Int) ≤ (↑k : Int) ∧ (↑k : Int) < (↑n : Int) ∧ 2 = 2) ∧ True ∧ condP (!nameF (nm (Int.toNat (↑k : Int)))) (R .ret (St.mk [(2, .int .i64 94)] [] 0 [])) (True ∧ condP (!nameF (vl (Int.toNat (↑k : Int)))) (R .ret (St.mk [(2, .int .i64 94)] [] 0 [])) ((KeysOK (TI.desc (TI.mk TypeDesc.string 1 16 (Value.string (ByteArray.mk #[])) false)) (seenM nm k) ∧ .bool (boolOf (Option.getD (mget (seenM nm k) (.str (nm (Int.toNat (↑k : Int))))) (.bool false))) = Option.getD (mget (seenM nm k) (.str (nm (Int.toNat (↑k : Int))))) (.bool false)) ∧ condP (boolOf (Option.getD (mget (seenM nm k) (.str (nm (Int.toNat (↑k : Int))))) (.bool false))) (R .ret (St.mk [(2, .int .i64 94)] [] 0 [])) (KeysOK (TI.desc (TI.mk TypeDesc.string 1 16 (Value.string (ByteArray.mk #[])) false)) (seenM nm k) ∧ inR .i64 ((↑k : Int) + (1 : Int)) ∧ ∃ (i' : Nat), some (St.mk [(3, .map 0), (33, .view 2 n (atRow nm vl)), (34, .int .i64 (↑n : Int)), (35, .int .i64 ((↑k : Int) + (1 : Int)))] [(0, .amap (List.map (fun (p : AV × AV) => (AV.rn (ren 0 [(0, 0)]) (Prod.fst p), AV.rn (ren 0 [(0, 0)]) (Prod.snd p))) (mset (seenM nm k) (.str (nm (Int.toNat (↑k : Int)))) (.bool true))))] 1 []) = some (St.mk [(3, .map 0), (33, .view 2 n (atRow nm vl)), (34, .int .i64 (↑n : Int)), (35, .int .i64 (↑i' : Int))] [(0, .amap (seenM nm i'))] 1 []) ∧ P i')))) (R (.exit 1) (St.mk [] [] 0 []))) := by kernel_rfl
theorem valw_loop (hP : C.P = Tryz.prog) (n : Nat) (nm vl : Nat → List UInt8) : LoopOK C 0 59 (loopC Tryz.f97 13) (L_vw n nm vl) := by
  rintro st Q ⟨h0, hn, hs, hQ⟩
  have hR := condP_elim hQ
  refine LoopOK.mk (prg hP) [(125, .det S_name)] 0 (.cons (name_ok hP) .nil) [3, 33, 34, 35] [] [2] (S_vw n nm vl) (fun k => k ≤ n ∧ atsOK nm vl k = true) (fun k => n - k) 0 ⟨by omega, rfl⟩ h0 (fun k hk => ?_)
  obtain ⟨hkn, hok⟩ := hk
  rw [nf_vw_round]
  have hbad : ∀ m, k ≤ m → k < m → atOK nm vl k = false → atsOK nm vl m = false := by
    intro m
    induction m with
    | zero => intro _ h; omega
    | succ m ih =>
      intro _ h2 h3
      rw [atsOK]
      by_cases hkm : k = m
      · subst hkm; rw [h3, Bool.and_false]
      · rw [ih (by omega) (by omega) h3, Bool.false_and]
  rw [Int.toNat_natCast]
  refine condP_dec (fun h1 => ?_) (fun h1 => ?_)
  · have hlt : k < n := by omega
    have hfail : atOK nm vl k = false → Q .ret (St.mk [(2, .int .i64 94)] [] 0 []) := fun h => hR.2 (hbad n hkn hlt h)
    have hk := seen_keys nm vl k hok
    rw [mget_seen]
    refine ⟨⟨by omega, by omega, rfl⟩, trivial, condP_not (fun h2 => hfail (by unfold atOK; rw [h2]; rfl)) (fun h2 => ⟨trivial, condP_not (fun h3 => hfail (by unfold atOK; rw [h3, Bool.and_false]; rfl)) (fun h3 => ⟨⟨hk, ?_⟩, ?_⟩)⟩)⟩
    · cases (List.range k).any (fun i => decide (nm i = nm k)) <;> rfl
    · cases ha : (List.range k).any (fun i => decide (nm i = nm k)) with
      | true => exact hfail (by unfold atOK; rw [fresh_any, ha]; simp)
      | false =>
        have hat : atOK nm vl k = true := by unfold atOK; rw [h2, h3, fresh_any, ha]; rfl
        refine ⟨hk, by simp only [inR]; omega, k + 1, ?_, ⟨by omega, by rw [atsOK, hok, hat]; rfl⟩, by omega⟩
        rw [mset_fresh nm _ _ k ha, show seenM nm k ++ [(.str (nm k), AV.bool true)] = seenM nm (k + 1) from rfl, seen_rn]
        rfl
  · have : k = n := by omega
    subst this
    exact hR.1 hok

theorem valV_ok (hP : C.P = Tryz.prog) (hL : ∀ w, C.laid w → LaidW w) : SpecOK C 97 S_valV := by
  rintro args objs U Os vc h hvc
  unfold S_valV at h
  split at h <;> simp only [Option.some.injEq, Prod.mk.injEq, reduceCtorEq] at h
  rename_i id code brand d c a n f
  obtain ⟨rfl, rfl, rfl⟩ := h
  obtain ⟨hn, h1, h2, hs, hf⟩ := hvc
  rw [hf]
  rw [← hf]
  generalize nmOf f = nm at *
  generalize vlOf f = vl at *
  rw [hf]
  unfold valF
  refine SpecOK.wpL (prg hP) [(92, .det S_validID), (124, .det S_level), (125, .det S_name), (126, .det S_qty)] [(13, L_vw n nm vl)] 2 (.cons (validID_ok hP (trim_ok hP)) (.cons (level_ok hP hL) (.cons (name_ok hP) (.cons (qty_ok hP) .nil)))) (hP ▸ Tryz.func97) rfl rfl rfl [(loopC Tryz.f97 13, L_vw n nm vl)] (by kernel_rfl) ⟨valw_loop hP n nm vl, trivial⟩ ?_
  rw [nf_valw, levelV_lt]
  refine ⟨trivial, condP_not (fun q1 => ?_) (fun q1 => ⟨h1, condP_not (fun q2 => ?_) (fun q2 => ⟨trivial, condP_not (fun q3 => ?_) (fun q3 => ⟨trivial, condP_ndec (fun q4 => ?_) (fun q4 => condP_dec (fun q5 => ?_) (fun q5 => ⟨rfl, by omega, hs, condP_intro (fun q6 => ?_) (fun q6 => ?_)⟩))⟩)⟩)⟩)⟩
  · rw [q1]; exact ⟨rfl, rfl⟩
  · rw [q1, q2]; exact ⟨rfl, rfl⟩
  · rw [q1, q2, q3]; exact ⟨rfl, rfl⟩
  · rw [q1, q2, q3, decide_eq_false q4]; exact ⟨rfl, rfl⟩
  · rw [q1, q2, q3, decide_eq_true q4, decide_eq_true (show 12 < n by omega)]; exact ⟨rfl, rfl⟩
  · rw [q1, q2, q3, decide_eq_true q4, decide_eq_false (show ¬ 12 < n by omega), q6]; exact ⟨rfl, rfl⟩
  · rw [q1, q2, q3, decide_eq_true q4, decide_eq_false (show ¬ 12 < n by omega), q6]; exact ⟨rfl, rfl⟩
end Go.Eng
