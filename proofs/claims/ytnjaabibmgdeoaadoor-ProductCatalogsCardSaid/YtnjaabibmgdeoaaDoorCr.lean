/- Lemmas that the tied card of ProductCatalogs is proved by. -/
import Derived.Test.YtnjaabibmgdeoaaDoorCm
import Derived.Test.YtnjaabibmgdeoaaDoorCp
import Derived.Test.YtnjaabibmgdeoaaDoorCn
import Derived.Test.YtnjaabibmgdeoaaDoorCq
import Derived.Test.YtnjaabibmgdeoaaDoorCo
/- Contents of packages. -/
namespace Go.Eng
open Go.Proofs Go.RowKit
set_option maxRecDepth 20000
theorem nf_qty (d c a : Int) (R : AV → List (Nat × AObj) → Prop) : wpFn te [] [] 0 Tryd.f24 [.agg [.int .i64 d, .int .i64 c, .int .i64 a]] [] R = (condP (decide (d < (1 : Int))) (R (.int .i64 80) []) (condP (decide ((4 : Int) < d)) (R (.int .i64 80) []) (condP (decide (c < (1 : Int))) (R (.int .i64 81) []) (condP (decide ((100 : Int) < c)) (R (.int .i64 81) []) (condP (decide (a < (1 : Int))) (R (.int .i64 82) []) ((c ≠ (0 : Int) ∧ inR .i64 (Int.tdiv (1099511627776 : Int) c)) ∧ condP (decide (Int.tdiv (1099511627776 : Int) c < a)) (R (.int .i64 82) []) (R (.int .i64 0) []))))))) := by kernel_rfl
theorem nf_qtyR (d c a : Int) (R : AV → List (Nat × AObj) → Prop) : wpFn te [] [] 0 Tryd.f28 [.agg [.int .i64 d, .int .i64 c, .int .i64 a]] [] R = (condP (decide (d < (1 : Int))) (R (.int .i64 80) []) (condP (decide ((4 : Int) < d)) (R (.int .i64 80) []) (condP (decide (c < (1 : Int))) (R (.int .i64 81) []) (condP (decide ((100 : Int) < c)) (R (.int .i64 81) []) (condP (decide (a < (1 : Int))) (R (.int .i64 82) []) ((c ≠ (0 : Int) ∧ inR .i64 (Int.tdiv (1099511627776 : Int) c)) ∧ condP (decide (Int.tdiv (1099511627776 : Int) c < a)) (R (.int .i64 82) []) (R (.int .i64 0) []))))))) := by kernel_rfl
variable {C : Ctx}

theorem qty_ok (hP : C.P = Tryd.prog) : SpecOK C 24 S_qty := by
  rintro args objs U Os vc h hvc
  unfold S_qty at h
  split at h <;> simp only [Option.some.injEq, Prod.mk.injEq, reduceCtorEq] at h
  rename_i d c a
  obtain ⟨rfl, rfl, rfl⟩ := h
  refine SpecOK.wp0 (prg hP) [] 0 .nil (hP ▸ Tryd.func24) rfl rfl rfl ?_
  rw [nf_qty]
  refine condP_intro (fun h1 => ?_) (fun h1 => condP_intro (fun h2 => ?_) (fun h2 => condP_intro (fun h3 => ?_) (fun h3 => condP_intro (fun h4 => ?_) (fun h4 => condP_intro (fun h5 => ?_) (fun h5 => ⟨qty_bound (of_decide_eq_false h3) (of_decide_eq_false h4), condP_intro (fun h6 => ?_) (fun h6 => ?_)⟩)))))
  all_goals simp only [qtyF, *, cond_true, cond_false, and_self]

theorem qtyR_ok (hP : C.P = Tryd.prog) : SpecOK C 28 S_qty := by
  rintro args objs U Os vc h hvc
  unfold S_qty at h
  split at h <;> simp only [Option.some.injEq, Prod.mk.injEq, reduceCtorEq] at h
  rename_i d c a
  obtain ⟨rfl, rfl, rfl⟩ := h
  refine SpecOK.wp0 (prg hP) [] 0 .nil (hP ▸ Tryd.func28) rfl rfl rfl ?_
  rw [nf_qtyR]
  refine condP_intro (fun h1 => ?_) (fun h1 => condP_intro (fun h2 => ?_) (fun h2 => condP_intro (fun h3 => ?_) (fun h3 => condP_intro (fun h4 => ?_) (fun h4 => condP_intro (fun h5 => ?_) (fun h5 => ⟨qty_bound (of_decide_eq_false h3) (of_decide_eq_false h4), condP_intro (fun h6 => ?_) (fun h6 => ?_)⟩)))))
  all_goals simp only [qtyF, *, cond_true, cond_false, and_self]

end Go.Eng
/- Runes: the library's functions compute what the plain functions say. -/
namespace Go.Eng
open Go.Proofs Go.RowKit
set_option maxRecDepth 20000

theorem nf_indexRune (s : List UInt8) (r : Int) (R : AV → List (Nat × AObj) → Prop) : wpFn te [(63, .det S_indexByte), (64, .det S_validRune)] [(38, L_irError s), (5, L_irMain s (Utf8.encode r).data.toList), (25, fun _ _ => False)] 0 Tryd.f52 [.str s, .int .i32 r] [] R = (condP (decide ((0 : Int) ≤ r)) (condP (decide (r < (128 : Int))) (inR .u8 r ∧ True ∧ R (.int .i64 (Lib.indexByte s (Nat.toUInt8 (Int.toNat r)))) []) (condP (decide (r = (65533 : Int))) (some (St.mk [(0, .str s), (175, .ptr 0 0)] [(0, .siter s 0)] 1 []) = some (St.mk [(0, .str s), (175, .ptr 0 0)] [(0, .siter s 0)] 1 []) ∧ ascii s = true ∧ R (.int .i64 (-1 : Int)) []) (True ∧ condP (!Lib.validRune r) (R (.int .i64 (-1 : Int)) []) (True ∧ inR .i64 ((↑(List.length (Array.toList (ByteArray.data (Utf8.encode r)))) : Int) - (1 : Int)) ∧ some (St.mk [(0, .str s), (7, .str (Array.toList (ByteArray.data (Utf8.encode r)))), (8, .int .i64 ((↑(List.length (Array.toList (ByteArray.data (Utf8.encode r)))) : Int) - (1 : Int))), (9, .int .i64 ((↑(List.length (Array.toList (ByteArray.data (Utf8.encode r)))) : Int) - (1 : Int)))] [] 0 []) = some (St.mk [(0, .str s), (7, .str (Array.toList (ByteArray.data (Utf8.encode r)))), (8, .int .i64 ((↑(List.length (Array.toList (ByteArray.data (Utf8.encode r)))) : Int) - (1 : Int))), (9, .int .i64 ((↑(List.length (Array.toList (ByteArray.data (Utf8.encode r)))) : Int) - (1 : Int)))] [] 0 []) ∧ ascii s = true ∧ List.length s ≤ 1000000 ∧ 2 ≤ List.length (Array.toList (ByteArray.data (Utf8.encode r))) ∧ List.length (Array.toList (ByteArray.data (Utf8.encode r))) ≤ 4 ∧ 128 ≤ UInt8.toNat (List.getD (Array.toList (ByteArray.data (Utf8.encode r))) (List.length (Array.toList (ByteArray.data (Utf8.encode r))) - 1) (0 : UInt8)) ∧ R (.int .i64 (-1 : Int)) [] ∧ R (.int .i64 (-1 : Int)) [])))) (condP (decide (r = (65533 : Int))) (some (St.mk [(0, .str s), (175, .ptr 0 0)] [(0, .siter s 0)] 1 []) = some (St.mk [(0, .str s), (175, .ptr 0 0)] [(0, .siter s 0)] 1 []) ∧ ascii s = true ∧ R (.int .i64 (-1 : Int)) []) (True ∧ condP (!Lib.validRune r) (R (.int .i64 (-1 : Int)) []) (True ∧ inR .i64 ((↑(List.length (Array.toList (ByteArray.data (Utf8.encode r)))) : Int) - (1 : Int)) ∧ some (St.mk [(0, .str s), (7, .str (Array.toList (ByteArray.data (Utf8.encode r)))), (8, .int .i64 ((↑(List.length (Array.toList (ByteArray.data (Utf8.encode r)))) : Int) - (1 : Int))), (9, .int .i64 ((↑(List.length (Array.toList (ByteArray.data (Utf8.encode r)))) : Int) - (1 : Int)))] [] 0 []) = some (St.mk [(0, .str s), (7, .str (Array.toList (ByteArray.data (Utf8.encode r)))), (8, .int .i64 ((↑(List.length (Array.toList (ByteArray.data (Utf8.encode r)))) : Int) - (1 : Int))), (9, .int .i64 ((↑(List.length (Array.toList (ByteArray.data (Utf8.encode r)))) : Int) - (1 : Int)))] [] 0 []) ∧ ascii s = true ∧ List.length s ≤ 1000000 ∧ 2 ≤ List.length (Array.toList (ByteArray.data (Utf8.encode r))) ∧ List.length (Array.toList (ByteArray.data (Utf8.encode r))) ≤ 4 ∧ 128 ≤ UInt8.toNat (List.getD (Array.toList (ByteArray.data (Utf8.encode r))) (List.length (Array.toList (ByteArray.data (Utf8.encode r))) - 1) (0 : UInt8)) ∧ R (.int .i64 (-1 : Int)) [] ∧ R (.int .i64 (-1 : Int)) [])))) := by kernel_rfl
theorem nf_irError (s : List UInt8) (k : Nat) (P : Nat → Prop) (R : Exit → St → Prop) : roundP ⟨te, [], [], 0, 187, 0⟩ (loopB Tryd.f52 38) [0, 175] [] [4] (S_irState s) P R (S_irState s k) = (condP (decide (k < List.length s)) (True ∧ condP (decide ((↑(Prod.fst (runeAt s k)) : Int) = (65533 : Int))) (R .ret (St.mk [(4, .int .i64 (↑k : Int))] [] 0 [])) (∃ (i' : Nat), some (St.mk [(0, .str s), (175, .ptr 0 0)] [(0, .siter s (k + Prod.snd (runeAt s k)))] 1 []) = some (St.mk [(0, .str s), (175, .ptr 0 0)] [(0, .siter s i')] 1 []) ∧ P i')) (True ∧ R (.exit 9) (St.mk [] [] 0 []))) := by kernel_rfl
theorem nf_irMain (s e : List UInt8) (P : Unit → Prop) (R : Exit → St → Prop) : roundP ⟨te, [(63, .det S_indexByte)], [(12, fun _ _ => False), (1015, fun _ _ => False), (1016, fun _ _ => False)], 0, 187, 0⟩ (loopB Tryd.f52 5) [0, 7, 8, 9] [] [4] (fun _ => S_irState2 s e) P R (S_irState2 s e) = (condP (decide ((↑(List.length e) : Int) - (1 : Int) < (↑(List.length s) : Int))) (((0 : Int) ≤ (↑(List.length e) : Int) - (1 : Int) ∧ (↑(List.length e) : Int) - (1 : Int) < (↑(List.length s) : Int)) ∧ ((0 : Int) ≤ (↑(List.length e) : Int) - (1 : Int) ∧ (↑(List.length e) : Int) - (1 : Int) < (↑(List.length e) : Int)) ∧ condP (!decide ((↑(UInt8.toNat (List.getD s (Int.toNat ((↑(List.length e) : Int) - (1 : Int))) (0 : UInt8))) : Int) = (↑(UInt8.toNat (List.getD e (Int.toNat ((↑(List.length e) : Int) - (1 : Int))) (0 : UInt8))) : Int))) (inR .i64 ((↑(List.length e) : Int) - (1 : Int) + (1 : Int)) ∧ ((0 : Int) ≤ (↑(List.length e) : Int) - (1 : Int) + (1 : Int) ∧ (↑(List.length e) : Int) - (1 : Int) + (1 : Int) ≤ (↑(List.length s) : Int)) ∧ ((0 : Int) ≤ (↑(List.length e) : Int) - (1 : Int) ∧ (↑(List.length e) : Int) - (1 : Int) < (↑(List.length e) : Int)) ∧ True ∧ condP (decide (Lib.indexByte (List.drop (Int.toNat ((↑(List.length e) : Int) - (1 : Int) + (1 : Int))) s) (Nat.toUInt8 (Int.toNat (↑(UInt8.toNat (List.getD e (Int.toNat ((↑(List.length e) : Int) - (1 : Int))) (0 : UInt8))) : Int))) < (0 : Int))) (R .ret (St.mk [(4, .int .i64 (-1 : Int))] [] 0 [])) (inR .i64 (Lib.indexByte (List.drop (Int.toNat ((↑(List.length e) : Int) - (1 : Int) + (1 : Int))) s) (Nat.toUInt8 (Int.toNat (↑(UInt8.toNat (List.getD e (Int.toNat ((↑(List.length e) : Int) - (1 : Int))) (0 : UInt8))) : Int))) + (1 : Int)) ∧ inR .i64 ((↑(List.length e) : Int) - (1 : Int) + (Lib.indexByte (List.drop (Int.toNat ((↑(List.length e) : Int) - (1 : Int) + (1 : Int))) s) (Nat.toUInt8 (Int.toNat (↑(UInt8.toNat (List.getD e (Int.toNat ((↑(List.length e) : Int) - (1 : Int))) (0 : UInt8))) : Int))) + (1 : Int))) ∧ False)) False) (R (.exit 1) (St.mk [] [] 0 []))) := by kernel_rfl
theorem nf_containsRune (s : List UInt8) (r : Int) (R : AV → List (Nat × AObj) → Prop) : wpFn te [(52, .det S_indexRune)] [] 0 Tryd.f39 [.str s, .int .i32 r] [] R = ((ascii s = true ∧ List.length s ≤ 1000000 ∧ (0 : Int) ≤ r ∧ r ≤ (1114111 : Int)) ∧ R (.bool (decide ((0 : Int) ≤ idxRune s r))) []) := by kernel_rfl


variable {C : Ctx}

theorem indexByte_ok (hP : C.P = Tryd.prog) : SpecOK C 63 S_indexByte := by
  rintro args objs U Os vc h hvc
  unfold S_indexByte at h
  split at h <;> simp only [Option.some.injEq, Prod.mk.injEq, reduceCtorEq] at h
  rename_i s c
  obtain ⟨rfl, rfl, rfl⟩ := h
  refine ACalls.below ⟨Tryd.f63, hP ▸ Tryd.func63, rfl, by decide⟩ fun w M cargs _ _ hM hl hv => ?_
  obtain ⟨a, b, rfl⟩ := mem2 hl
  have e1 := (hv 0 _ _ rfl rfl).str_iff
  have e2 := (hv 1 _ _ rfl rfl).int_iff
  subst e1; subst e2
  rw [hP]
  refine (Tryd.strings_IndexByte ⟨s.toArray⟩ c w).mono ?_
  rintro e w' ⟨rfl, rfl⟩
  exact ⟨_, rfl, Below.refl _ _, .int⟩

theorem validRune_ok (hP : C.P = Tryd.prog) : SpecOK C 64 S_validRune := by
  rintro args objs U Os vc h hvc
  unfold S_validRune at h
  split at h <;> simp only [Option.some.injEq, Prod.mk.injEq, reduceCtorEq] at h
  rename_i r
  obtain ⟨rfl, rfl, rfl⟩ := h
  refine ACalls.below ⟨Tryd.f64, hP ▸ Tryd.func64, rfl, by decide⟩ fun w M cargs _ _ hM hl hv => ?_
  obtain ⟨a, rfl⟩ := mem1 hl
  have e1 := (hv 0 _ _ rfl rfl).int_iff
  subst e1
  rw [hP]
  refine (Tryd.utf8_ValidRune r w).mono ?_
  rintro e w' ⟨rfl, rfl⟩
  exact ⟨_, rfl, Below.refl _ _, .bool⟩

theorem irError_ok (hP : C.P = Tryd.prog) (s : List UInt8) : LoopOK C 0 187 (loopC Tryd.f52 38) (L_irError s) := by
  rintro st Q ⟨h0, ha, hQ⟩
  refine LoopOK.mk (prg hP) [] 0 .nil [0, 175] [] [4] (S_irState s) (fun k => k ≤ s.length) (fun k => s.length - k) 0 (Nat.zero_le _) h0 fun k hk => ?_
  rw [nf_irError]
  refine condP_intro (fun h => ?_) (fun h => ⟨trivial, hQ⟩)
  have h := of_decide_eq_true h
  have hlt := ascii_at ha h
  rw [runeAt_lo h hlt]
  refine ⟨trivial, condP_intro (fun h' => ?_) (fun _ => ⟨k + 1, rfl, by omega, by omega⟩)⟩
  have h' := of_decide_eq_true h'
  simp only at h'
  omega

theorem irMain_ok (hP : C.P = Tryd.prog) (s e : List UInt8) : LoopOK C 0 187 (loopC Tryd.f52 5) (L_irMain s e) := by
  rintro st Q ⟨h0, ha, hs, h2, h4, hl, hQ1, hQ2⟩
  refine LoopOK.mkL (prg hP) [(63, .det S_indexByte)] [(12, fun _ _ => False), (1015, fun _ _ => False), (1016, fun _ _ => False)] 0 (.cons (indexByte_ok hP) .nil)
    [(loopC Tryd.f52 12, fun _ _ => False), (regC Tryd.f52 15, fun _ _ => False), (regC Tryd.f52 16, fun _ _ => False)] (by kernel_rfl)
    ⟨fun _ _ h => h.elim, fun _ _ h => h.elim, fun _ _ h => h.elim, trivial⟩ [0, 7, 8, 9] [] [4] (fun _ : Unit => S_irState2 s e) (fun _ => True) (fun _ => 0) () trivial h0 fun _ _ => ?_
  rw [nf_irMain]
  refine condP_intro (fun h => ?_) (fun h => hQ1)
  have h := of_decide_eq_true h
  have e1 : ((e.length : Int) - 1).toNat = e.length - 1 := by omega
  have e2 : ((e.length : Int) - 1 + 1).toNat = e.length := by omega
  have hlo := ascii_at ha (k := e.length - 1) (by omega)
  simp only [e1, e2, inR]
  have hne : decide (((s.getD (e.length - 1) 0).toNat : Int) = ((e.getD (e.length - 1) 0).toNat : Int)) = false := decide_eq_false (by omega)
  rw [hne]
  have hb : (e.getD (e.length - 1) 0).toNat < 256 := (e.getD (e.length - 1) 0).toNat_lt
  have hneg := indexByte_ascii (ascii_drop ha e.length) (c := ((e.getD (e.length - 1) 0).toNat : Int).toNat.toUInt8) (by rw [u8_round]; exact hl)
  refine ⟨by omega, by omega, by omega, by omega, by omega, trivial, ?_⟩
  rw [hneg]
  exact hQ2

theorem indexRune_ok (hP : C.P = Tryd.prog) : SpecOK C 52 S_indexRune := by
  rintro args objs U Os vc h hvc
  unfold S_indexRune at h
  split at h <;> simp only [Option.some.injEq, Prod.mk.injEq, reduceCtorEq] at h
  rename_i s r
  obtain ⟨rfl, rfl, rfl⟩ := h
  obtain ⟨ha, hs, h0, h1⟩ := hvc
  refine SpecOK.wpL (prg hP) [(63, .det S_indexByte), (64, .det S_validRune)] [(38, L_irError s), (5, L_irMain s (Utf8.encode r).data.toList), (25, fun _ _ => False)] 0
    (.cons (indexByte_ok hP) (.cons (validRune_ok hP) .nil)) (hP ▸ Tryd.func52) rfl rfl rfl
    [(loopC Tryd.f52 38, L_irError s), (loopC Tryd.f52 5, L_irMain s (Utf8.encode r).data.toList), (loopC Tryd.f52 25, fun _ _ => False)] (by kernel_rfl)
    ⟨irError_ok hP s, irMain_ok hP s _, fun _ _ h => h.elim, trivial⟩ ?_
  rw [nf_indexRune]
  refine condP_intro (fun _ => condP_intro (fun h => ?_) (fun h => ?_)) (fun h => absurd h0 (of_decide_eq_false h))
  · have h' := of_decide_eq_true h
    refine ⟨by simp only [inR]; omega, trivial, ?_, rfl⟩
    simp only [idxRune, h]
  · have h' := of_decide_eq_false h
    refine condP_intro (fun _ => ⟨rfl, ha, ?_, rfl⟩) (fun _ => ⟨trivial, condP_intro (fun _ => ⟨?_, rfl⟩) (fun hv => ?_)⟩)
    · simp only [idxRune, h]
    · simp only [idxRune, h]
    · have hv : Lib.validRune r = true := by simpa using hv
      obtain ⟨l1, l2, l3⟩ := encode_last (by omega) hv
      refine ⟨trivial, by simp only [inR]; omega, rfl, ha, hs, l1, l2, l3, ⟨?_, rfl⟩, ⟨?_, rfl⟩⟩
      · simp only [idxRune, h]
      · simp only [idxRune, h]

theorem containsRune_ok (hP : C.P = Tryd.prog) : SpecOK C 39 S_containsRune := by
  rintro args objs U Os vc h hvc
  unfold S_containsRune at h
  split at h <;> simp only [Option.some.injEq, Prod.mk.injEq, reduceCtorEq] at h
  rename_i s r
  obtain ⟨rfl, rfl, rfl⟩ := h
  refine SpecOK.wp0 (prg hP) [(52, .det S_indexRune)] 0 (.cons (indexRune_ok hP) .nil) (hP ▸ Tryd.func39) rfl rfl rfl ?_
  rw [nf_containsRune]
  exact ⟨hvc, rfl, rfl⟩

end Go.Eng
/- Names of products: the functions compute what the plain functions say. -/
namespace Go.Eng
open Go.Proofs Go.RowKit
set_option maxRecDepth 20000

theorem nf_name1 (r : Int) (R : AV → List (Nat × AObj) → Prop) : wpFn te [(39, .det S_containsRune)] [] 0 Tryd.f38 [.int .i32 r] [] R = ((true = true ∧ 38 ≤ 1000000 ∧ (0 : Int) ≤ r ∧ r ≤ (1114111 : Int)) ∧ R (.bool !decide ((0 : Int) ≤ idxRune ([(97 : UInt8), 98, 99, 100, 101, 102, 103, 104, 105, 106, 107, 108, 109, 110, 111, 112, 113, 114, 115, 116, 117, 118, 119, 120, 121, 122, 48, 49, 50, 51, 52, 53, 54, 55, 56, 57, 45, 46]) r)) []) := by kernel_rfl
theorem nf_indexFunc (s : List UInt8) (R : AV → List (Nat × AObj) → Prop) : wpFn te [] [(2, L_indexFunc s)] 0 Tryd.f62 [.str s, .func 38 [], .bool true] [] R = (some (St.mk [(1, .func 38 []), (2, .bool true), (10, .ptr 0 0)] [(0, .siter s 0)] 1 []) = some (St.mk [(1, .func 38 []), (2, .bool true), (10, .ptr 0 0)] [(0, .siter s 0)] 1 []) ∧ condP (List.all s isNB) (R (.int .i64 (-1 : Int)) []) (R (.int .i64 (↑(badAt s) : Int)) [])) := by kernel_rfl
theorem nf_indexFunc_round (s : List UInt8) (k : Nat) (P : Nat → Prop) (R : Exit → St → Prop) : roundP ⟨te, [(38, .det S_name1)], [], 0, 21, 0⟩ (loopB Tryd.f62 2) [1, 2, 10] [] [6] (S_ifState s) P R (S_ifState s k) = (condP (decide (k < List.length s)) (True ∧ ((0 : Int) ≤ (↑(Prod.fst (runeAt s k)) : Int) ∧ (↑(Prod.fst (runeAt s k)) : Int) ≤ (1114111 : Int)) ∧ condP (decide ((!decide ((0 : Int) ≤ idxRune nameAll (↑(Prod.fst (runeAt s k)) : Int))) = true)) (R .ret (St.mk [(6, .int .i64 (↑k : Int))] [] 0 [])) (∃ (i' : Nat), some (St.mk [(1, .func 38 []), (2, .bool true), (10, .ptr 0 0)] [(0, .siter s (k + Prod.snd (runeAt s k)))] 1 []) = some (St.mk [(1, .func 38 []), (2, .bool true), (10, .ptr 0 0)] [(0, .siter s i')] 1 []) ∧ P i')) (True ∧ R (.exit 0) (St.mk [] [] 0 []))) := by kernel_rfl
theorem nf_IndexFunc (s : List UInt8) (R : AV → List (Nat × AObj) → Prop) : wpFn te [(62, .det S_indexFunc)] [] 0 Tryd.f51 [.str s, .func 38 []] [] R = (True ∧ R (.int .i64 (firstBad s)) []) := by kernel_rfl
theorem nf_ContainsFunc (s : List UInt8) (R : AV → List (Nat × AObj) → Prop) : wpFn te [(51, .det S_IndexFunc)] [] 0 Tryd.f37 [.str s, .func 38 []] [] R = (True ∧ R (.bool (decide ((0 : Int) ≤ firstBad s))) []) := by kernel_rfl
theorem nf_name (s : List UInt8) (R : AV → List (Nat × AObj) → Prop) : wpFn te [(36, .det S_trim), (37, .det S_ContainsFunc)] [] 0 Tryd.f23 [.str s] [] R = (condP (!decide (s = [])) (condP (decide ((↑(List.length s) : Int) ≤ (24 : Int))) (((0 : Int) ≤ (1 : Int) ∧ (1 : Int) ≤ (↑(List.length s) : Int)) ∧ (List.length (List.take (Int.toNat (1 : Int)) s) ≤ 9223372036854775807 ∧ 2 ≤ 36 ∧ 36 < 4294967281 ∧ ∀ (b : UInt8), b ∈ [(97 : UInt8), 98, 99, 100, 101, 102, 103, 104, 105, 106, 107, 108, 109, 110, 111, 112, 113, 114, 115, 116, 117, 118, 119, 120, 121, 122, 48, 49, 50, 51, 52, 53, 54, 55, 56, 57] → UInt8.toNat b < 128) ∧ condP (decide (trimF ([(97 : UInt8), 98, 99, 100, 101, 102, 103, 104, 105, 106, 107, 108, 109, 110, 111, 112, 113, 114, 115, 116, 117, 118, 119, 120, 121, 122, 48, 49, 50, 51, 52, 53, 54, 55, 56, 57]) (List.take (Int.toNat (1 : Int)) s) = [])) (True ∧ R (.bool !!List.all s isNB) []) (R (.bool false) [])) (R (.bool false) [])) (R (.bool false) [])) := by kernel_rfl


variable {C : Ctx}

theorem name1_ok (hP : C.P = Tryd.prog) : SpecOK C 38 S_name1 := by
  rintro args objs U Os vc h hvc
  unfold S_name1 at h
  split at h <;> simp only [Option.some.injEq, Prod.mk.injEq, reduceCtorEq] at h
  rename_i r
  obtain ⟨rfl, rfl, rfl⟩ := h
  refine SpecOK.wp0 (prg hP) [(39, .det S_containsRune)] 0 (.cons (containsRune_ok hP) .nil) (hP ▸ Tryd.func38) rfl rfl rfl ?_
  rw [nf_name1]
  exact ⟨⟨rfl, by omega, hvc.1, hvc.2⟩, rfl, rfl⟩

theorem indexFunc_loop (hP : C.P = Tryd.prog) (s : List UInt8) : LoopOK C 0 21 (loopC Tryd.f62 2) (L_indexFunc s) := by
  rintro st Q ⟨h0, hQ⟩
  have hQ := condP_elim hQ
  refine LoopOK.mk (prg hP) [(38, .det S_name1)] 0 (.cons (name1_ok hP) .nil) [1, 2, 10] [] [6] (S_ifState s) (fun k => k ≤ s.length ∧ ∀ j, j < k → isNB (s.getD j 0) = true) (fun k => s.length - k) 0 ⟨Nat.zero_le _, fun j h => by omega⟩ h0 fun k ⟨hk, hall⟩ => ?_
  rw [nf_indexFunc_round]
  refine condP_intro (fun h => ?_) (fun h => ⟨trivial, ?_⟩)
  · have h := of_decide_eq_true h
    have hle := runeAt_le h
    refine ⟨trivial, ⟨by omega, by omega⟩, ?_⟩
    -- what the predicate says of the rune is what isNB says of the byte
    have key : (decide (0 ≤ idxRune nameAll ((runeAt s k).1 : Int))) = isNB (s.getD k 0) ∧ (isNB (s.getD k 0) = true → (runeAt s k).2 = 1) := by
      by_cases hlo : (s.getD k 0).toNat < 128
      · rw [runeAt_lo h hlo]
        exact ⟨nameRune_lo _ hlo, fun _ => rfl⟩
      · have hh := runeAt_hi h (by omega)
        have hn : isNB (s.getD k 0) = false := by
          generalize s.getD k 0 = b at *
          simp only [isNB, isLet, Bool.or_eq_false_iff, Bool.and_eq_false_imp, decide_eq_true_eq, decide_eq_false_iff_not]
          omega
        rw [nameRune_hi _ hh.1, hn]
        exact ⟨rfl, fun h => by cases h⟩
    rw [key.1]
    refine condP_intro (fun hb => ?_) (fun hb => ?_)
    · have hb : isNB (s.getD k 0) = false := by simpa using hb
      have hf : s.all isNB = false := by
        cases ha : s.all isNB with
        | false => rfl
        | true =>
          have := List.all_eq_true.1 ha (s.getD k 0) (by simp [List.getD, h])
          rw [hb] at this; cases this
      obtain ⟨b1, b2, b3⟩ := badAt_spec hf
      have : badAt s = k := by
        rcases Nat.lt_trichotomy (badAt s) k with hl | hl | hl
        · rw [hall _ hl] at b2; cases b2
        · exact hl
        · rw [b3 k hl] at hb; cases hb
      have hq := hQ.2 hf
      rw [this] at hq
      exact hq
    · have hb : isNB (s.getD k 0) = true := by simpa using hb
      rw [key.2 hb]
      refine ⟨k + 1, rfl, ⟨by omega, fun j hj => ?_⟩, by omega⟩
      rcases Nat.lt_succ_iff_lt_or_eq.1 hj with hj | rfl
      · exact hall j hj
      · exact hb
  · have h := of_decide_eq_false h
    refine hQ.1 (List.all_eq_true.2 fun b hb => ?_)
    obtain ⟨j, hj, rfl⟩ := List.getElem_of_mem hb
    have := hall j (by omega)
    simpa [List.getD, hj] using this

theorem indexFunc_ok (hP : C.P = Tryd.prog) : SpecOK C 62 S_indexFunc := by
  rintro args objs U Os vc h hvc
  unfold S_indexFunc at h
  split at h <;> simp only [Option.some.injEq, Prod.mk.injEq, reduceCtorEq] at h
  rename_i s
  obtain ⟨rfl, rfl, rfl⟩ := h
  refine SpecOK.wpL (prg hP) [] [(2, L_indexFunc s)] 0 .nil (hP ▸ Tryd.func62) rfl rfl rfl [(loopC Tryd.f62 2, L_indexFunc s)] (by kernel_rfl) ⟨indexFunc_loop hP s, trivial⟩ ?_
  rw [nf_indexFunc]
  refine ⟨rfl, condP_intro (fun h => ⟨?_, rfl⟩) (fun h => ⟨?_, rfl⟩)⟩
  · simp only [firstBad, h]
  · simp only [firstBad, h]

theorem IndexFunc_ok (hP : C.P = Tryd.prog) : SpecOK C 51 S_IndexFunc := by
  rintro args objs U Os vc h hvc
  unfold S_IndexFunc at h
  split at h <;> simp only [Option.some.injEq, Prod.mk.injEq, reduceCtorEq] at h
  rename_i s
  obtain ⟨rfl, rfl, rfl⟩ := h
  refine SpecOK.wp0 (prg hP) [(62, .det S_indexFunc)] 0 (.cons (indexFunc_ok hP) .nil) (hP ▸ Tryd.func51) rfl rfl rfl ?_
  rw [nf_IndexFunc]
  exact ⟨trivial, rfl, rfl⟩

theorem ContainsFunc_ok (hP : C.P = Tryd.prog) : SpecOK C 37 S_ContainsFunc := by
  rintro args objs U Os vc h hvc
  unfold S_ContainsFunc at h
  split at h <;> simp only [Option.some.injEq, Prod.mk.injEq, reduceCtorEq] at h
  rename_i s
  obtain ⟨rfl, rfl, rfl⟩ := h
  refine SpecOK.wp0 (prg hP) [(51, .det S_IndexFunc)] 0 (.cons (IndexFunc_ok hP) .nil) (hP ▸ Tryd.func37) rfl rfl rfl ?_
  rw [nf_ContainsFunc, firstBad_neg]
  exact ⟨trivial, rfl, rfl⟩

theorem name_ok (hP : C.P = Tryd.prog) : SpecOK C 23 S_name := by
  rintro args objs U Os vc h hvc
  unfold S_name at h
  split at h <;> simp only [Option.some.injEq, Prod.mk.injEq, reduceCtorEq] at h
  rename_i s
  obtain ⟨rfl, rfl, rfl⟩ := h
  refine SpecOK.wp0 (prg hP) [(36, .det S_trim), (37, .det S_ContainsFunc)] 0 (.cons (trim_ok hP) (.cons (ContainsFunc_ok hP) .nil)) (hP ▸ Tryd.func23) rfl rfl rfl ?_
  rw [nf_name]
  cases s with
  | nil => exact ⟨rfl, rfl⟩
  | cons b r =>
    have e : (b :: r).take (Int.toNat 1) = [b] := rfl
    have hasc : ∀ x ∈ nameFirst, UInt8.toNat x < 128 := by decide +kernel
    rw [e, trimF_first]
    have hl : (List.length (b :: r) : Int) = r.length + 1 := by simp
    have hl' : List.length (b :: r) = r.length + 1 := rfl
    have hd : (b :: r).getD 0 0 = b := rfl
    refine condP_intro (fun _ => condP_intro (fun h => ⟨by omega, ⟨by simp, by omega, by omega, hasc⟩, condP_intro (fun h' => ⟨trivial, ?_, rfl⟩) (fun h' => ⟨?_, rfl⟩)⟩) (fun h => ⟨?_, rfl⟩)) (fun h => by simp at h)
    · have h := of_decide_eq_true h
      simp only [nameF, hd, h', hl', Bool.not_not]
      rw [decide_eq_true (by omega), decide_eq_true (by omega)]
      rfl
    · simp only [nameF, hd, h', Bool.and_false, Bool.false_and]
    · have h := of_decide_eq_false h
      simp only [nameF, hl']
      rw [decide_eq_false (p := r.length + 1 ≤ 24) (by omega)]
      simp

end Go.Eng
/- The validation of products whose attributes are plain data. -/
namespace Go.Eng
open Go.Proofs Go.RowKit
variable {C : Ctx}
set_option maxRecDepth 20000
theorem nf_valw (id code brand : List UInt8) (d c a : Int) (n : Nat) (nm vl : Nat → List UInt8) (R : AV → List (Nat × AObj) → Prop) : wpFn te [(21, .det S_validID), (22, .det S_level), (23, .det S_name), (24, .det S_qty)] [(13, L_vw n nm vl)] 2 Tryd.f8 [.agg [.str id, .str code, .str brand, .int .i64 d, .int .i64 c, .int .i64 a, .view 2 n (atRow nm vl)]] [] R = (True ∧ condP (!validIDF id) (R (.int .i64 90) []) (List.length code < 4294967281 ∧ condP (decide (levelV code < (1 : Int))) (R (.int .i64 91) []) (True ∧ condP (!nameF brand) (R (.int .i64 92) []) (True ∧ condP (!decide (qtyF d c a = (0 : Int))) (R (.int .i64 93) []) (condP (decide ((12 : Int) < (↑n : Int))) (R (.int .i64 94) []) (some (St.mk [(3, .map 0), (33, .view 2 n (atRow nm vl)), (34, .int .i64 (↑n : Int)), (35, .int .i64 0)] [(0, .amap (List.map (fun (p : AV × AV) => (AV.rn (ren 0 [(65, 0)]) (Prod.fst p), AV.rn (ren 0 [(65, 0)]) (Prod.snd p))) []))] 1 []) = some (St.mk [(3, .map 0), (33, .view 2 n (atRow nm vl)), (34, .int .i64 (↑n : Int)), (35, .int .i64 (↑0 : Int))] [(0, .amap (seenM nm 0))] 1 []) ∧ n ≤ 12 ∧ (∀ (i : Nat), i < n → List.length (nm i) < 4294967281 ∧ List.length (vl i) < 4294967281) ∧ condP (atsOK nm vl n) (R (.int .i64 0) []) (R (.int .i64 94) []))))))) := by kernel_rfl
theorem nf_vw_round (n : Nat) (nm vl : Nat → List UInt8) (k : Nat) (P : Nat → Prop) (R : Exit → St → Prop) : roundP ⟨te, [(23, .det S_name)], [], 0, 59, 0⟩ (loopB Tryd.f8 13) [3, 33, 34, 35] [] [2] (S_vw n nm vl) P R (S_vw n nm vl k) = (condP (decide ((↑k : Int) < (↑n : Int))) (((0 : Int) ≤ (↑k : Int) ∧ (↑k : Int) < (↑n : Int) ∧ 2 = 2) ∧ True ∧ condP (!nameF (nm (Int.toNat (↑k : Int)))) (R .ret (St.mk [(2, .int .i64 94)] [] 0 [])) (True ∧ condP (!nameF (vl (Int.toNat (↑k : Int)))) (R .ret (St.mk [(2, .int .i64 94)] [] 0 [])) ((KeysOK (TI.desc (TI.mk TypeDesc.string 1 16 (Value.string (ByteArray.mk #[])) false)) (seenM nm k) ∧ .bool (boolOf (Option.getD (mget (seenM nm k) (.str (nm (Int.toNat (↑k : Int))))) (.bool false))) = Option.getD (mget (seenM nm k) (.str (nm (Int.toNat (↑k : Int))))) (.bool false)) ∧ condP (boolOf (Option.getD (mget (seenM nm k) (.str (nm (Int.toNat (↑k : Int))))) (.bool false))) (R .ret (St.mk [(2, .int .i64 94)] [] 0 [])) (KeysOK (TI.desc (TI.mk TypeDesc.string 1 16 (Value.string (ByteArray.mk #[])) false)) (seenM nm k) ∧ inR .i64 ((↑k : Int) + (1 : Int)) ∧ ∃ (i' : Nat), some (St.mk [(3, .map 0), (33, .view 2 n (atRow nm vl)), (34, .int .i64 (↑n : Int)), (35, .int .i64 ((↑k : Int) + (1 : Int)))] [(0, .amap (List.map (fun (p : AV × AV) => (AV.rn (ren 0 [(0, 0)]) (Prod.fst p), AV.rn (ren 0 [(0, 0)]) (Prod.snd p))) (mset (seenM nm k) (.str (nm (Int.toNat (↑k : Int)))) (.bool true))))] 1 []) = some (St.mk [(3, .map 0), (33, .view 2 n (atRow nm vl)), (34, .int .i64 (↑n : Int)), (35, .int .i64 (↑i' : Int))] [(0, .amap (seenM nm i'))] 1 []) ∧ P i')))) (R (.exit 1) (St.mk [] [] 0 []))) := by kernel_rfl
theorem valw_loop (hP : C.P = Tryd.prog) (n : Nat) (nm vl : Nat → List UInt8) : LoopOK C 0 59 (loopC Tryd.f8 13) (L_vw n nm vl) := by
  rintro st Q ⟨h0, hn, hs, hQ⟩
  have hR := condP_elim hQ
  refine LoopOK.mk (prg hP) [(23, .det S_name)] 0 (.cons (name_ok hP) .nil) [3, 33, 34, 35] [] [2] (S_vw n nm vl) (fun k => k ≤ n ∧ atsOK nm vl k = true) (fun k => n - k) 0 ⟨by omega, rfl⟩ h0 (fun k hk => ?_)
  obtain ⟨hkn, hok⟩ := hk
  rw [nf_vw_round]
  have hbad : ∀ m, k ≤ m → k < m → atOK nm vl k = false → atsOK nm vl m = false := by
    intro m
    induction m with
    | zero => intro _ h; omega
    | succ m ih =>
      intro _ h2 h3
      rw [atsOK]
      by_cases hkm : k = m
      · subst hkm; rw [h3, Bool.and_false]
      · rw [ih (by omega) (by omega) h3, Bool.false_and]
  rw [Int.toNat_natCast]
  refine condP_dec (fun h1 => ?_) (fun h1 => ?_)
  · have hlt : k < n := by omega
    have hfail : atOK nm vl k = false → Q .ret (St.mk [(2, .int .i64 94)] [] 0 []) := fun h => hR.2 (hbad n hkn hlt h)
    have hk := seen_keys nm vl k hok
    rw [mget_seen]
    refine ⟨⟨by omega, by omega, rfl⟩, trivial, condP_not (fun h2 => hfail (by unfold atOK; rw [h2]; rfl)) (fun h2 => ⟨trivial, condP_not (fun h3 => hfail (by unfold atOK; rw [h3, Bool.and_false]; rfl)) (fun h3 => ⟨⟨hk, ?_⟩, ?_⟩)⟩)⟩
    · cases (List.range k).any (fun i => decide (nm i = nm k)) <;> rfl
    · cases ha : (List.range k).any (fun i => decide (nm i = nm k)) with
      | true => exact hfail (by unfold atOK; rw [fresh_any, ha]; simp)
      | false =>
        have hat : atOK nm vl k = true := by unfold atOK; rw [h2, h3, fresh_any, ha]; rfl
        refine ⟨hk, by simp only [inR]; omega, k + 1, ?_, ⟨by omega, by rw [atsOK, hok, hat]; rfl⟩, by omega⟩
        rw [mset_fresh nm _ _ k ha, show seenM nm k ++ [(.str (nm k), AV.bool true)] = seenM nm (k + 1) from rfl, seen_rn]
        rfl
  · have : k = n := by omega
    subst this
    exact hR.1 hok

theorem valV_ok (hP : C.P = Tryd.prog) (hL : ∀ w, C.laid w → LaidW w) : SpecOK C 8 S_valV := by
  rintro args objs U Os vc h hvc
  unfold S_valV at h
  split at h <;> simp only [Option.some.injEq, Prod.mk.injEq, reduceCtorEq] at h
  rename_i id code brand d c a n f
  obtain ⟨rfl, rfl, rfl⟩ := h
  obtain ⟨hn, h1, h2, hs, hf⟩ := hvc
  rw [hf]
  rw [← hf]
  generalize nmOf f = nm at *
  generalize vlOf f = vl at *
  rw [hf]
  unfold valF
  refine SpecOK.wpL (prg hP) [(21, .det S_validID), (22, .det S_level), (23, .det S_name), (24, .det S_qty)] [(13, L_vw n nm vl)] 2 (.cons (validID_ok hP (trim_ok hP)) (.cons (level_ok hP hL) (.cons (name_ok hP) (.cons (qty_ok hP) .nil)))) (hP ▸ Tryd.func8) rfl rfl rfl [(loopC Tryd.f8 13, L_vw n nm vl)] (by kernel_rfl) ⟨valw_loop hP n nm vl, trivial⟩ ?_
  rw [nf_valw, levelV_lt]
  refine ⟨trivial, condP_not (fun q1 => ?_) (fun q1 => ⟨h1, condP_not (fun q2 => ?_) (fun q2 => ⟨trivial, condP_not (fun q3 => ?_) (fun q3 => ⟨trivial, condP_ndec (fun q4 => ?_) (fun q4 => condP_dec (fun q5 => ?_) (fun q5 => ⟨rfl, by omega, hs, condP_intro (fun q6 => ?_) (fun q6 => ?_)⟩))⟩)⟩)⟩)⟩
  · rw [q1]; exact ⟨rfl, rfl⟩
  · rw [q1, q2]; exact ⟨rfl, rfl⟩
  · rw [q1, q2, q3]; exact ⟨rfl, rfl⟩
  · rw [q1, q2, q3, decide_eq_false q4]; exact ⟨rfl, rfl⟩
  · rw [q1, q2, q3, decide_eq_true q4, decide_eq_true (show 12 < n by omega)]; exact ⟨rfl, rfl⟩
  · rw [q1, q2, q3, decide_eq_true q4, decide_eq_false (show ¬ 12 < n by omega), q6]; exact ⟨rfl, rfl⟩
  · rw [q1, q2, q3, decide_eq_true q4, decide_eq_false (show ¬ 12 < n by omega), q6]; exact ⟨rfl, rfl⟩
end Go.Eng
/- The reference of the validation, of products whose attributes are plain data. -/
namespace Go.Eng
open Go.Proofs Go.RowKit
variable {C : Ctx}
set_option maxRecDepth 20000
theorem nf_wr1 (id code brand : List UInt8) (d c a : Int) (n : Nat) (nm vl : Nat → List UInt8) (R : AV → List (Nat × AObj) → Prop) : wpFn te [(25, .det S_validID), (26, .det S_is), (27, .det S_nameR), (28, .det S_qty)] [(12, L_wr ⟨id, code, brand, d, c, a⟩ n nm vl)] 2 Tryd.f9 [.agg [.str id, .str code, .str brand, .int .i64 d, .int .i64 c, .int .i64 a, .view 2 n (atRow nm vl)]] [] R = (True ∧ condP (!validIDF id) (R (.int .i64 90) []) (List.length code < 4294967281 ∧ condP (!parseOK code) (R (.int .i64 91) []) (List.length brand ≤ 9223372036854775806 ∧ condP (!nameF brand) (R (.int .i64 92) []) (True ∧ condP (!decide (qtyF d c a = (0 : Int))) (R (.int .i64 93) []) (condP (decide ((12 : Int) < (↑n : Int))) (R (.int .i64 94) []) (some (St.mk [(1, .ptr 0 0), (28, .view 2 n (atRow nm vl)), (29, .int .i64 (↑n : Int)), (30, .int .i64 0)] [(0, .cells [.str id, .str code, .str brand, .int .i64 d, .int .i64 c, .int .i64 a, .view 2 n (atRow nm vl)] 26)] 1 []) = some (St.mk [(1, .ptr 0 0), (28, .view 2 n (atRow nm vl)), (29, .int .i64 (↑n : Int)), (30, .int .i64 (↑0 : Int))] [(0, .cells [.str (PW.id (PW.mk id code brand d c a)), .str (PW.code (PW.mk id code brand d c a)), .str (PW.brand (PW.mk id code brand d c a)), .int .i64 (PW.d (PW.mk id code brand d c a)), .int .i64 (PW.c (PW.mk id code brand d c a)), .int .i64 (PW.a (PW.mk id code brand d c a)), .view 2 n (atRow nm vl)] 26)] 1 []) ∧ n ≤ 12 ∧ (∀ (i : Nat), i < n → List.length (nm i) < 4294967281 ∧ List.length (vl i) < 4294967281) ∧ condP (atsOK nm vl n) (R (.int .i64 0) []) (R (.int .i64 94) []))))))) := by kernel_rfl
theorem nf_wr_round (p : PW) (n : Nat) (nm vl : Nat → List UInt8) (k : Nat) (P : Nat → Prop) (R : Exit → St → Prop) : roundP ⟨te, [(27, .det S_nameR)], [(17, L_wi p n nm vl k)], 0, 61, 0⟩ (loopB Tryd.f9 12) [1, 28, 29, 30] [] [2] (S_wr p n nm vl) P R (S_wr p n nm vl k) = (condP (decide ((↑k : Int) < (↑n : Int))) (((0 : Int) ≤ (↑k : Int) ∧ (↑k : Int) < (↑n : Int) ∧ 2 = 2) ∧ List.length (nm (Int.toNat (↑k : Int))) ≤ 9223372036854775806 ∧ condP (!nameF (nm (Int.toNat (↑k : Int)))) (R .ret (St.mk [(2, .int .i64 94)] [] 0 [])) (List.length (vl (Int.toNat (↑k : Int))) ≤ 9223372036854775806 ∧ condP (!nameF (vl (Int.toNat (↑k : Int)))) (R .ret (St.mk [(2, .int .i64 94)] [] 0 [])) (((0 : Int) ≤ (↑k : Int) ∧ (↑k : Int) ≤ (↑n : Int)) ∧ some (St.mk [(1, .ptr 0 0), (4, .ptr 1 0), (28, .view 2 n (atRow nm vl)), (29, .int .i64 (↑n : Int)), (30, .int .i64 (↑k : Int)), (48, .view 2 (Int.toNat (↑k : Int)) (atRow nm vl)), (49, .int .i64 (↑(Int.toNat (↑k : Int)) : Int)), (50, .int .i64 0)] [(0, .cells [.str (PW.id p), .str (PW.code p), .str (PW.brand p), .int .i64 (PW.d p), .int .i64 (PW.c p), .int .i64 (PW.a p), .view 2 n (atRow nm vl)] 26), (1, .cells [.str (nm (Int.toNat (↑k : Int))), .str (vl (Int.toNat (↑k : Int)))] 52)] 2 []) = some (St.mk [(1, .ptr 0 0), (4, .ptr 1 0), (28, .view 2 n (atRow nm vl)), (29, .int .i64 (↑n : Int)), (30, .int .i64 (↑k : Int)), (48, .view 2 k (atRow nm vl)), (49, .int .i64 (↑k : Int)), (50, .int .i64 (↑0 : Int))] [(0, .cells [.str (PW.id p), .str (PW.code p), .str (PW.brand p), .int .i64 (PW.d p), .int .i64 (PW.c p), .int .i64 (PW.a p), .view 2 n (atRow nm vl)] 26), (1, .cells [.str (nm k), .str (vl k)] 52)] 2 []) ∧ k < n ∧ n ≤ 12 ∧ condP (freshAt nm k k) (inR .i64 ((↑k : Int) + (1 : Int)) ∧ ∃ (i' : Nat), some (St.mk [(1, .ptr 0 0), (28, .view 2 n (atRow nm vl)), (29, .int .i64 (↑n : Int)), (30, .int .i64 ((↑k : Int) + (1 : Int)))] [(0, .cells [.str (PW.id p), .str (PW.code p), .str (PW.brand p), .int .i64 (PW.d p), .int .i64 (PW.c p), .int .i64 (PW.a p), .view 2 n (atRow nm vl)] 26)] 1 []) = some (St.mk [(1, .ptr 0 0), (28, .view 2 n (atRow nm vl)), (29, .int .i64 (↑n : Int)), (30, .int .i64 (↑i' : Int))] [(0, .cells [.str (PW.id p), .str (PW.code p), .str (PW.brand p), .int .i64 (PW.d p), .int .i64 (PW.c p), .int .i64 (PW.a p), .view 2 n (atRow nm vl)] 26)] 1 []) ∧ P i') (R .ret (St.mk [(2, .int .i64 94)] [] 0 []))))) (R (.exit 0) (St.mk [] [] 0 []))) := by kernel_rfl
theorem nf_wi_round (p : PW) (n : Nat) (nm vl : Nat → List UInt8) (k j : Nat) (P : Nat → Prop) (R : Exit → St → Prop) : roundP ⟨te, [], [], 0, 61, 0⟩ (loopB Tryd.f9 17) [1, 4, 28, 29, 30, 48, 49, 50] [1, 28, 29, 30] [2] (S_wi p n nm vl k) P R (S_wi p n nm vl k j) = (condP (decide ((↑j : Int) < (↑k : Int))) (((0 : Int) ≤ (↑j : Int) ∧ (↑j : Int) < (↑k : Int) ∧ 2 = 2) ∧ condP (decide (nm k = nm (Int.toNat (↑j : Int)))) (R .ret (St.mk [(2, .int .i64 94)] [] 0 [])) (inR .i64 ((↑j : Int) + (1 : Int)) ∧ ∃ (i' : Nat), some (St.mk [(1, .ptr 0 0), (4, .ptr 1 0), (28, .view 2 n (atRow nm vl)), (29, .int .i64 (↑n : Int)), (30, .int .i64 (↑k : Int)), (48, .view 2 k (atRow nm vl)), (49, .int .i64 (↑k : Int)), (50, .int .i64 ((↑j : Int) + (1 : Int)))] [(0, .cells [.str (PW.id p), .str (PW.code p), .str (PW.brand p), .int .i64 (PW.d p), .int .i64 (PW.c p), .int .i64 (PW.a p), .view 2 n (atRow nm vl)] 26), (1, .cells [.str (nm k), .str (vl k)] 52)] 2 []) = some (St.mk [(1, .ptr 0 0), (4, .ptr 1 0), (28, .view 2 n (atRow nm vl)), (29, .int .i64 (↑n : Int)), (30, .int .i64 (↑k : Int)), (48, .view 2 k (atRow nm vl)), (49, .int .i64 (↑k : Int)), (50, .int .i64 (↑i' : Int))] [(0, .cells [.str (PW.id p), .str (PW.code p), .str (PW.brand p), .int .i64 (PW.d p), .int .i64 (PW.c p), .int .i64 (PW.a p), .view 2 n (atRow nm vl)] 26), (1, .cells [.str (nm k), .str (vl k)] 52)] 2 []) ∧ P i')) (R (.exit 2) (St.mk [(1, .ptr 0 0), (28, .view 2 n (atRow nm vl)), (29, .int .i64 (↑n : Int)), (30, .int .i64 (↑k : Int))] [(0, .cells [.str (PW.id p), .str (PW.code p), .str (PW.brand p), .int .i64 (PW.d p), .int .i64 (PW.c p), .int .i64 (PW.a p), .view 2 n (atRow nm vl)] 26)] 1 []))) := by kernel_rfl

theorem wi_loop (hP : C.P = Tryd.prog) (p : PW) (n : Nat) (nm vl : Nat → List UInt8) (k : Nat) : LoopOK C 0 61 (loopC Tryd.f9 17) (L_wi p n nm vl k) := by
  rintro st Q ⟨h0, hk, hn, hQ⟩
  have hR := condP_elim hQ
  refine LoopOK.mk (prg hP) [] 0 .nil [1, 4, 28, 29, 30, 48, 49, 50] [1, 28, 29, 30] [2] (S_wi p n nm vl k) (fun j => j ≤ k ∧ freshAt nm j k = true) (fun j => k - j) 0 ⟨by omega, rfl⟩ h0 (fun j hj => ?_)
  obtain ⟨hjk, hok⟩ := hj
  rw [nf_wi_round, Int.toNat_natCast]
  have hbad : ∀ m, j < m → nm k = nm j → freshAt nm m k = false := by
    intro m
    induction m with
    | zero => intro h; omega
    | succ m ih =>
      intro h2 h3
      rw [freshAt]
      by_cases hkm : j = m
      · subst hkm; rw [decide_eq_true h3]; simp
      · rw [ih (by omega) h3, Bool.false_and]
  refine condP_dec (fun h1 => ⟨⟨by omega, by omega, rfl⟩, condP_dec (fun h2 => hR.2 (hbad k (by omega) h2)) (fun h2 => ⟨by simp only [inR]; omega, j + 1, rfl, ⟨by omega, ?_⟩, by omega⟩)⟩) (fun h1 => ?_)
  · rw [freshAt, hok, decide_eq_false h2]; rfl
  · have : j = k := by omega
    subst this
    exact hR.1 hok

theorem wr_loop (hP : C.P = Tryd.prog) (p : PW) (n : Nat) (nm vl : Nat → List UInt8) : LoopOK C 0 61 (loopC Tryd.f9 12) (L_wr p n nm vl) := by
  rintro st Q ⟨h0, hn, hs, hQ⟩
  have hR := condP_elim hQ
  refine LoopOK.mkI (prg hP) [(27, .det S_nameR)] (fun k => [(17, L_wi p n nm vl k)]) 0 (.cons (nameR_ok hP) .nil) (fun k => [(loopC Tryd.f9 17, L_wi p n nm vl k)]) (fun k => by kernel_rfl) (fun k => ⟨wi_loop hP p n nm vl k, trivial⟩) [1, 28, 29, 30] [] [2] (S_wr p n nm vl) (fun k => k ≤ n ∧ atsOK nm vl k = true) (fun k => n - k) 0 ⟨by omega, rfl⟩ h0 (fun k hk => ?_)
  obtain ⟨hkn, hok⟩ := hk
  rw [nf_wr_round]
  have hbad : ∀ m, k ≤ m → k < m → atOK nm vl k = false → atsOK nm vl m = false := by
    intro m
    induction m with
    | zero => intro _ h; omega
    | succ m ih =>
      intro _ h2 h3
      rw [atsOK]
      by_cases hkm : k = m
      · subst hkm; rw [h3, Bool.and_false]
      · rw [ih (by omega) (by omega) h3, Bool.false_and]
  rw [Int.toNat_natCast]
  refine condP_dec (fun h1 => ?_) (fun h1 => ?_)
  · have hlt : k < n := by omega
    have hfail : atOK nm vl k = false → Q .ret (St.mk [(2, .int .i64 94)] [] 0 []) := fun h => hR.2 (hbad n hkn hlt h)
    have hsk := hs k hlt
    refine ⟨⟨by omega, by omega, rfl⟩, by omega, condP_not (fun h2 => hfail (by unfold atOK; rw [h2]; rfl)) (fun h2 => ⟨by omega, condP_not (fun h3 => hfail (by unfold atOK; rw [h3, Bool.and_false]; rfl)) (fun h3 => ⟨⟨by omega, by omega⟩, rfl, hlt, hn, condP_intro (fun h4 => ⟨by simp only [inR]; omega, k + 1, rfl, ⟨by omega, ?_⟩, by omega⟩) (fun h4 => hfail (by unfold atOK; rw [h4, Bool.and_false]))⟩)⟩)⟩
    rw [atsOK, hok]
    unfold atOK
    rw [h2, h3, h4]; rfl
  · have : k = n := by omega
    subst this
    exact hR.1 hok

theorem valRV_ok (hP : C.P = Tryd.prog) : SpecOK C 9 S_valV := by
  rintro args objs U Os vc h hvc
  unfold S_valV at h
  split at h <;> simp only [Option.some.injEq, Prod.mk.injEq, reduceCtorEq] at h
  rename_i id code brand d c a n f
  obtain ⟨rfl, rfl, rfl⟩ := h
  obtain ⟨hn, h1, h2, hs, hf⟩ := hvc
  generalize nmOf f = nm at *
  generalize vlOf f = vl at *
  rw [hf]
  unfold valF
  refine SpecOK.wpL (prg hP) [(25, .det S_validID), (26, .det S_is), (27, .det S_nameR), (28, .det S_qty)] [(12, L_wr ⟨id, code, brand, d, c, a⟩ n nm vl)] 2 (.cons (validIDR_ok hP) (.cons (is_ok hP) (.cons (nameR_ok hP) (.cons (qtyR_ok hP) .nil)))) (hP ▸ Tryd.func9) rfl rfl rfl [(loopC Tryd.f9 12, L_wr ⟨id, code, brand, d, c, a⟩ n nm vl)] (by kernel_rfl) ⟨wr_loop hP _ n nm vl, trivial⟩ ?_
  rw [nf_wr1]
  refine ⟨trivial, condP_not (fun q1 => ?_) (fun q1 => ⟨h1, condP_not (fun q2 => ?_) (fun q2 => ⟨by omega, condP_not (fun q3 => ?_) (fun q3 => ⟨trivial, condP_ndec (fun q4 => ?_) (fun q4 => condP_dec (fun q5 => ?_) (fun q5 => ⟨rfl, by omega, hs, condP_intro (fun q6 => ?_) (fun q6 => ?_)⟩))⟩)⟩)⟩)⟩
  · rw [q1]; exact ⟨rfl, rfl⟩
  · rw [q1, q2]; exact ⟨rfl, rfl⟩
  · rw [q1, q2, q3]; exact ⟨rfl, rfl⟩
  · rw [q1, q2, q3, decide_eq_false q4]; exact ⟨rfl, rfl⟩
  · rw [q1, q2, q3, decide_eq_true q4, decide_eq_true (show 12 < n by omega)]; exact ⟨rfl, rfl⟩
  · rw [q1, q2, q3, decide_eq_true q4, decide_eq_false (show ¬ 12 < n by omega), q6]; exact ⟨rfl, rfl⟩
  · rw [q1, q2, q3, decide_eq_true q4, decide_eq_false (show ¬ 12 < n by omega), q6]; exact ⟨rfl, rfl⟩
end Go.Eng
/- The validation of catalogs. -/
namespace Go.Eng
open Go.Proofs Go.RowKit
variable {C : Ctx}
set_option maxRecDepth 20000
theorem nf_vc (g : Nat → PR) (n : Nat) (R : AV → List (Nat × AObj) → Prop) : wpFn te [(8, .det S_valV)] [(4, L_vc g n)] 0 Tryd.f13 [.own 0 n] [.row 26 7 n (pdRow g) false] R = (condP (decide ((200 : Int) < (↑n : Int))) ((∀ (i : Nat), i < n → true = true) ∧ ∃ (O' : List (Nat × AObj)), RowsEq [(0, .row 26 7 n (pdRow g) false)] O' ∧ R (.int .i64 95) O') ((TEq [(0, .own 0 n), (9, .own 0 n), (10, .int .i64 (↑n : Int)), (11, .int .i64 0)] [(0, .own 0 n), (9, .own 0 n), (10, .int .i64 (↑n : Int)), (11, .int .i64 (↑0 : Int))] ∧ RowsEq [(0, .row 26 7 n (pdRow g) false)] [(0, .row 26 7 n (pdRow g) false)]) ∧ n ≤ 200 ∧ (∀ (i : Nat), i < n → PR.Short (g i)) ∧ condP (decide (catE g n = (0 : Int))) ((∀ (i : Nat), i < n → true = true) ∧ ∃ (O' : List (Nat × AObj)), RowsEq [(0, .row 26 7 n (pdRow g) false)] O' ∧ R (.int .i64 0) O') ((∀ (i : Nat), i < n → true = true) ∧ ∃ (O' : List (Nat × AObj)), RowsEq [(0, .row 26 7 n (pdRow g) false)] O' ∧ R (.int .i64 (catE g n)) O'))) := by kernel_rfl
theorem nf_vc_round (g : Nat → PR) (n k : Nat) (P : Nat → Prop) (R : Exit → St → Prop) : roundP ⟨te, [(8, .det S_valV)], [], 1, 35, 0⟩ (loopB Tryd.f13 4) [0, 9, 10, 11] [] [2] (S_vc g n) P R (S_vc g n k) = (condP (decide ((↑k : Int) < (↑n : Int))) (((0 : Int) ≤ (↑k : Int) ∧ (↑k : Int) < (↑n : Int)) ∧ (Int.toNat (↑k : Int) < n ∧ 7 = 7) ∧ (PR.na (g (Int.toNat (↑k : Int))) ≤ 4294967281 ∧ List.length (PR.code (g (Int.toNat (↑k : Int)))) < 4294967281 ∧ List.length (PR.brand (g (Int.toNat (↑k : Int)))) < 4294967281 ∧ (∀ (i : Nat), i < PR.na (g (Int.toNat (↑k : Int))) → List.length (nmOf (atRow (PR.nm (g (Int.toNat (↑k : Int)))) (PR.vl (g (Int.toNat (↑k : Int))))) i) < 4294967281 ∧ List.length (vlOf (atRow (PR.nm (g (Int.toNat (↑k : Int)))) (PR.vl (g (Int.toNat (↑k : Int))))) i) < 4294967281) ∧ atRow (PR.nm (g (Int.toNat (↑k : Int)))) (PR.vl (g (Int.toNat (↑k : Int)))) = atRow (nmOf (atRow (PR.nm (g (Int.toNat (↑k : Int)))) (PR.vl (g (Int.toNat (↑k : Int)))))) (vlOf (atRow (PR.nm (g (Int.toNat (↑k : Int)))) (PR.vl (g (Int.toNat (↑k : Int))))))) ∧ condP (!decide (valF (PR.id (g (Int.toNat (↑k : Int)))) (PR.code (g (Int.toNat (↑k : Int)))) (PR.brand (g (Int.toNat (↑k : Int)))) (PR.d (g (Int.toNat (↑k : Int)))) (PR.c (g (Int.toNat (↑k : Int)))) (PR.q (g (Int.toNat (↑k : Int)))) (PR.na (g (Int.toNat (↑k : Int)))) (nmOf (atRow (PR.nm (g (Int.toNat (↑k : Int)))) (PR.vl (g (Int.toNat (↑k : Int)))))) (vlOf (atRow (PR.nm (g (Int.toNat (↑k : Int)))) (PR.vl (g (Int.toNat (↑k : Int)))))) = (0 : Int))) ((∀ (i : Nat), i < n → true = true) ∧ ∃ (O' : List (Nat × AObj)), RowsEq [(0, .row 26 7 n (pdRow g) false)] O' ∧ R .ret (St.mk [(2, .int .i64 (valF (PR.id (g (Int.toNat (↑k : Int)))) (PR.code (g (Int.toNat (↑k : Int)))) (PR.brand (g (Int.toNat (↑k : Int)))) (PR.d (g (Int.toNat (↑k : Int)))) (PR.c (g (Int.toNat (↑k : Int)))) (PR.q (g (Int.toNat (↑k : Int)))) (PR.na (g (Int.toNat (↑k : Int)))) (nmOf (atRow (PR.nm (g (Int.toNat (↑k : Int)))) (PR.vl (g (Int.toNat (↑k : Int)))))) (vlOf (atRow (PR.nm (g (Int.toNat (↑k : Int)))) (PR.vl (g (Int.toNat (↑k : Int))))))))] O' 1 [])) (condP (decide ((0 : Int) < (↑k : Int))) (inR .i64 ((↑k : Int) - (1 : Int)) ∧ ((0 : Int) ≤ (↑k : Int) - (1 : Int) ∧ (↑k : Int) - (1 : Int) < (↑n : Int)) ∧ (Int.toNat ((↑k : Int) - (1 : Int)) < n ∧ 7 = 7) ∧ condP (!Op.bytesLess (PR.id (g (Int.toNat ((↑k : Int) - (1 : Int))))) (PR.id (g (Int.toNat (↑k : Int))))) ((∀ (i : Nat), i < n → true = true) ∧ ∃ (O' : List (Nat × AObj)), RowsEq [(0, .row 26 7 n (pdRow g) false)] O' ∧ R .ret (St.mk [(2, .int .i64 96)] O' 1 [])) (inR .i64 ((↑k : Int) + (1 : Int)) ∧ ∃ (i' : Nat), (TEq [(0, .own 0 n), (9, .own 0 n), (10, .int .i64 (↑n : Int)), (11, .int .i64 ((↑k : Int) + (1 : Int)))] [(0, .own 0 n), (9, .own 0 n), (10, .int .i64 (↑n : Int)), (11, .int .i64 (↑i' : Int))] ∧ RowsEq [(0, .row 26 7 n (pdRow g) false)] [(0, .row 26 7 n (pdRow g) false)]) ∧ P i')) (inR .i64 ((↑k : Int) + (1 : Int)) ∧ ∃ (i' : Nat), (TEq [(0, .own 0 n), (9, .own 0 n), (10, .int .i64 (↑n : Int)), (11, .int .i64 ((↑k : Int) + (1 : Int)))] [(0, .own 0 n), (9, .own 0 n), (10, .int .i64 (↑n : Int)), (11, .int .i64 (↑i' : Int))] ∧ RowsEq [(0, .row 26 7 n (pdRow g) false)] [(0, .row 26 7 n (pdRow g) false)]) ∧ P i'))) ((∀ (i : Nat), i < n → true = true) ∧ ∃ (O' : List (Nat × AObj)), RowsEq [(0, .row 26 7 n (pdRow g) false)] O' ∧ R (.exit 0) (St.mk [] O' 1 []))) := by kernel_rfl
theorem nf_vcr (g : Nat → PR) (n : Nat) (R : AV → List (Nat × AObj) → Prop) : wpFn te [(9, .det S_valV)] [(4, L_vc g n)] 0 Tryd.f20 [.own 0 n] [.row 26 7 n (pdRow g) false] R = (condP (decide ((200 : Int) < (↑n : Int))) ((∀ (i : Nat), i < n → true = true) ∧ ∃ (O' : List (Nat × AObj)), RowsEq [(0, .row 26 7 n (pdRow g) false)] O' ∧ R (.int .i64 95) O') ((TEq [(0, .own 0 n), (9, .own 0 n), (10, .int .i64 (↑n : Int)), (11, .int .i64 0)] [(0, .own 0 n), (9, .own 0 n), (10, .int .i64 (↑n : Int)), (11, .int .i64 (↑0 : Int))] ∧ RowsEq [(0, .row 26 7 n (pdRow g) false)] [(0, .row 26 7 n (pdRow g) false)]) ∧ n ≤ 200 ∧ (∀ (i : Nat), i < n → PR.Short (g i)) ∧ condP (decide (catE g n = (0 : Int))) ((∀ (i : Nat), i < n → true = true) ∧ ∃ (O' : List (Nat × AObj)), RowsEq [(0, .row 26 7 n (pdRow g) false)] O' ∧ R (.int .i64 0) O') ((∀ (i : Nat), i < n → true = true) ∧ ∃ (O' : List (Nat × AObj)), RowsEq [(0, .row 26 7 n (pdRow g) false)] O' ∧ R (.int .i64 (catE g n)) O'))) := by kernel_rfl
theorem nf_vcr_round (g : Nat → PR) (n k : Nat) (P : Nat → Prop) (R : Exit → St → Prop) : roundP ⟨te, [(9, .det S_valV)], [], 1, 35, 0⟩ (loopB Tryd.f20 4) [0, 9, 10, 11] [] [2] (S_vc g n) P R (S_vc g n k) = (condP (decide ((↑k : Int) < (↑n : Int))) (((0 : Int) ≤ (↑k : Int) ∧ (↑k : Int) < (↑n : Int)) ∧ (Int.toNat (↑k : Int) < n ∧ 7 = 7) ∧ (PR.na (g (Int.toNat (↑k : Int))) ≤ 4294967281 ∧ List.length (PR.code (g (Int.toNat (↑k : Int)))) < 4294967281 ∧ List.length (PR.brand (g (Int.toNat (↑k : Int)))) < 4294967281 ∧ (∀ (i : Nat), i < PR.na (g (Int.toNat (↑k : Int))) → List.length (nmOf (atRow (PR.nm (g (Int.toNat (↑k : Int)))) (PR.vl (g (Int.toNat (↑k : Int))))) i) < 4294967281 ∧ List.length (vlOf (atRow (PR.nm (g (Int.toNat (↑k : Int)))) (PR.vl (g (Int.toNat (↑k : Int))))) i) < 4294967281) ∧ atRow (PR.nm (g (Int.toNat (↑k : Int)))) (PR.vl (g (Int.toNat (↑k : Int)))) = atRow (nmOf (atRow (PR.nm (g (Int.toNat (↑k : Int)))) (PR.vl (g (Int.toNat (↑k : Int)))))) (vlOf (atRow (PR.nm (g (Int.toNat (↑k : Int)))) (PR.vl (g (Int.toNat (↑k : Int))))))) ∧ condP (!decide (valF (PR.id (g (Int.toNat (↑k : Int)))) (PR.code (g (Int.toNat (↑k : Int)))) (PR.brand (g (Int.toNat (↑k : Int)))) (PR.d (g (Int.toNat (↑k : Int)))) (PR.c (g (Int.toNat (↑k : Int)))) (PR.q (g (Int.toNat (↑k : Int)))) (PR.na (g (Int.toNat (↑k : Int)))) (nmOf (atRow (PR.nm (g (Int.toNat (↑k : Int)))) (PR.vl (g (Int.toNat (↑k : Int)))))) (vlOf (atRow (PR.nm (g (Int.toNat (↑k : Int)))) (PR.vl (g (Int.toNat (↑k : Int)))))) = (0 : Int))) ((∀ (i : Nat), i < n → true = true) ∧ ∃ (O' : List (Nat × AObj)), RowsEq [(0, .row 26 7 n (pdRow g) false)] O' ∧ R .ret (St.mk [(2, .int .i64 (valF (PR.id (g (Int.toNat (↑k : Int)))) (PR.code (g (Int.toNat (↑k : Int)))) (PR.brand (g (Int.toNat (↑k : Int)))) (PR.d (g (Int.toNat (↑k : Int)))) (PR.c (g (Int.toNat (↑k : Int)))) (PR.q (g (Int.toNat (↑k : Int)))) (PR.na (g (Int.toNat (↑k : Int)))) (nmOf (atRow (PR.nm (g (Int.toNat (↑k : Int)))) (PR.vl (g (Int.toNat (↑k : Int)))))) (vlOf (atRow (PR.nm (g (Int.toNat (↑k : Int)))) (PR.vl (g (Int.toNat (↑k : Int))))))))] O' 1 [])) (condP (decide ((0 : Int) < (↑k : Int))) (inR .i64 ((↑k : Int) - (1 : Int)) ∧ ((0 : Int) ≤ (↑k : Int) - (1 : Int) ∧ (↑k : Int) - (1 : Int) < (↑n : Int)) ∧ (Int.toNat ((↑k : Int) - (1 : Int)) < n ∧ 7 = 7) ∧ condP (!Op.bytesLess (PR.id (g (Int.toNat ((↑k : Int) - (1 : Int))))) (PR.id (g (Int.toNat (↑k : Int))))) ((∀ (i : Nat), i < n → true = true) ∧ ∃ (O' : List (Nat × AObj)), RowsEq [(0, .row 26 7 n (pdRow g) false)] O' ∧ R .ret (St.mk [(2, .int .i64 96)] O' 1 [])) (inR .i64 ((↑k : Int) + (1 : Int)) ∧ ∃ (i' : Nat), (TEq [(0, .own 0 n), (9, .own 0 n), (10, .int .i64 (↑n : Int)), (11, .int .i64 ((↑k : Int) + (1 : Int)))] [(0, .own 0 n), (9, .own 0 n), (10, .int .i64 (↑n : Int)), (11, .int .i64 (↑i' : Int))] ∧ RowsEq [(0, .row 26 7 n (pdRow g) false)] [(0, .row 26 7 n (pdRow g) false)]) ∧ P i')) (inR .i64 ((↑k : Int) + (1 : Int)) ∧ ∃ (i' : Nat), (TEq [(0, .own 0 n), (9, .own 0 n), (10, .int .i64 (↑n : Int)), (11, .int .i64 ((↑k : Int) + (1 : Int)))] [(0, .own 0 n), (9, .own 0 n), (10, .int .i64 (↑n : Int)), (11, .int .i64 (↑i' : Int))] ∧ RowsEq [(0, .row 26 7 n (pdRow g) false)] [(0, .row 26 7 n (pdRow g) false)]) ∧ P i'))) ((∀ (i : Nat), i < n → true = true) ∧ ∃ (O' : List (Nat × AObj)), RowsEq [(0, .row 26 7 n (pdRow g) false)] O' ∧ R (.exit 0) (St.mk [] O' 1 []))) := by kernel_rfl
theorem catE_stop (g : Nat → PR) {k : Nat} (h : catE g (k + 1) ≠ 0) : ∀ n, k < n → catE g n = catE g (k + 1)
  | 0, hn => by omega
  | n + 1, hn => by
    by_cases hk : k = n
    · subst hk; rfl
    · have ih := catE_stop g h n (by omega)
      rw [catE, decide_eq_false (show ¬ catE g n = 0 by rw [ih]; exact h)]
      exact ih

theorem vc_loop (hP : C.P = Tryd.prog) (hL : ∀ w, C.laid w → LaidW w) (g : Nat → PR) (n : Nat) : LoopOK C 1 35 (loopC Tryd.f13 4) (L_vc g n) := by
  rintro st Q ⟨h0, hn, hs, hQ⟩
  have hR := condP_elim hQ
  refine LoopOK.mk (prg hP) [(8, .det S_valV)] 0 (.cons (valV_ok hP hL) .nil) [0, 9, 10, 11] [] [2] (S_vc g n) (fun k => k ≤ n ∧ catE g k = 0) (fun k => n - k) 0 ⟨Nat.zero_le _, rfl⟩ h0 (fun k hk => ?_) (fun i => ⟨fun _ _ => rfl, trivial⟩)
  obtain ⟨hkn, hok⟩ := hk
  rw [nf_vc_round, Int.toNat_natCast]
  refine condP_dec (fun h1 => ?_) (fun h1 => ⟨fun _ _ => rfl, _, rowsEq1, ?_⟩)
  · have hlt : k < n := by omega
    have hp := hs k hlt
    have hne : catE g (k + 1) ≠ 0 → ∀ {x : Int}, catE g (k + 1) = x → Q .ret ⟨[(2, .int .i64 x)], [(0, .row 26 7 n (pdRow g) false)], 1, []⟩ := fun h x hx => by
      have e := catE_stop g h n hlt
      have := hR.2 (by rw [e]; exact decide_eq_false h)
      rw [e, hx] at this; exact this
    refine ⟨⟨by omega, by omega⟩, ⟨hlt, rfl⟩, ⟨by have := hp.na; omega, by have := hp.code; omega, by have := hp.brand; omega, fun i hi => ⟨by have := (hp.at_ i hi).1; exact Nat.lt_of_le_of_lt this (by omega), by have := (hp.at_ i hi).2; exact Nat.lt_of_le_of_lt this (by omega)⟩, rfl⟩, condP_ndec (fun q1 => ⟨fun _ _ => rfl, _, rowsEq1, ?_⟩) (fun q1 => ?_)⟩
    · have q1' : ¬ errOf (g k) = 0 := q1
      have e : catE g (k + 1) = errOf (g k) := by rw [catE, decide_eq_true hok, decide_eq_false q1']; rfl
      exact hne (by rw [e]; exact q1') e
    · have q1' : errOf (g k) = 0 := q1
      refine condP_dec (fun q2 => ?_) (fun q2 => ?_)
      · have ek : ((k : Int) - 1).toNat = k - 1 := by omega
        rw [ek]
        refine ⟨by simp only [inR]; omega, ⟨by omega, by omega⟩, ⟨by omega, rfl⟩, condP_not (fun q3 => ⟨fun _ _ => rfl, _, rowsEq1, ?_⟩) (fun q3 => ⟨by simp only [inR]; omega, k + 1, ⟨rfl, rowsEq1⟩, ⟨by omega, ?_⟩, by omega⟩)⟩
        · have e : catE g (k + 1) = 96 := by rw [catE, decide_eq_true hok, decide_eq_true q1', decide_eq_true (show 0 < k by omega), q3]; rfl
          exact hne (by rw [e]; decide) e
        · rw [catE, decide_eq_true hok, decide_eq_true q1', q3]
          cases decide (0 < k) <;> rfl
      · refine ⟨by simp only [inR]; omega, k + 1, ⟨rfl, rowsEq1⟩, ⟨by omega, ?_⟩, by omega⟩
        rw [catE, decide_eq_true hok, decide_eq_true q1', decide_eq_false (show ¬ 0 < k by omega)]; rfl
  · have : k = n := by omega
    subst this
    exact hR.1 (by rw [decide_eq_true hok])

theorem vc_ok (hP : C.P = Tryd.prog) (hL : ∀ w, C.laid w → LaidW w) : SpecOK C 13 S_vcat := by
  rintro args objs U Os vc h hvc
  unfold S_vcat at h
  split at h <;> simp only [Option.some.injEq, Prod.mk.injEq, reduceCtorEq] at h
  rename_i n t m f fr
  obtain ⟨rfl, rfl, rfl⟩ := h
  obtain ⟨rfl, rfl, rfl, hn, hf, hs⟩ := hvc
  generalize prOf f = g at *
  rw [hf]
  unfold catF
  refine SpecOK.wpL (prg hP) [(8, .det S_valV)] [(4, L_vc g n)] 0 (.cons (valV_ok hP hL) .nil) (hP ▸ Tryd.func13) rfl rfl rfl [(loopC Tryd.f13 4, L_vc g n)] (by kernel_rfl) ⟨vc_loop hP hL g n, trivial⟩ ?_
  rw [nf_vc]
  refine condP_dec (fun q1 => ⟨fun _ _ => rfl, _, rowsEq1, ?_⟩) (fun q1 => ⟨⟨rfl, rowsEq1⟩, by omega, hs, condP_dec (fun q2 => ⟨fun _ _ => rfl, _, rowsEq1, ?_⟩) (fun q2 => ⟨fun _ _ => rfl, _, rowsEq1, ?_⟩)⟩)
  · rw [decide_eq_true (show 200 < n by omega)]; exact ⟨rfl, rfl⟩
  · rw [decide_eq_false (show ¬ 200 < n by omega), q2]; exact ⟨rfl, rfl⟩
  · rw [decide_eq_false (show ¬ 200 < n by omega)]; exact ⟨rfl, rfl⟩

theorem vcr_loop (hP : C.P = Tryd.prog) (g : Nat → PR) (n : Nat) : LoopOK C 1 35 (loopC Tryd.f20 4) (L_vc g n) := by
  rintro st Q ⟨h0, hn, hs, hQ⟩
  have hR := condP_elim hQ
  refine LoopOK.mk (prg hP) [(9, .det S_valV)] 0 (.cons (valRV_ok hP) .nil) [0, 9, 10, 11] [] [2] (S_vc g n) (fun k => k ≤ n ∧ catE g k = 0) (fun k => n - k) 0 ⟨Nat.zero_le _, rfl⟩ h0 (fun k hk => ?_) (fun i => ⟨fun _ _ => rfl, trivial⟩)
  obtain ⟨hkn, hok⟩ := hk
  rw [nf_vcr_round, Int.toNat_natCast]
  refine condP_dec (fun h1 => ?_) (fun h1 => ⟨fun _ _ => rfl, _, rowsEq1, ?_⟩)
  · have hlt : k < n := by omega
    have hp := hs k hlt
    have hne : catE g (k + 1) ≠ 0 → ∀ {x : Int}, catE g (k + 1) = x → Q .ret ⟨[(2, .int .i64 x)], [(0, .row 26 7 n (pdRow g) false)], 1, []⟩ := fun h x hx => by
      have e := catE_stop g h n hlt
      have := hR.2 (by rw [e]; exact decide_eq_false h)
      rw [e, hx] at this; exact this
    refine ⟨⟨by omega, by omega⟩, ⟨hlt, rfl⟩, ⟨by have := hp.na; omega, by have := hp.code; omega, by have := hp.brand; omega, fun i hi => ⟨by have := (hp.at_ i hi).1; exact Nat.lt_of_le_of_lt this (by omega), by have := (hp.at_ i hi).2; exact Nat.lt_of_le_of_lt this (by omega)⟩, rfl⟩, condP_ndec (fun q1 => ⟨fun _ _ => rfl, _, rowsEq1, ?_⟩) (fun q1 => ?_)⟩
    · have q1' : ¬ errOf (g k) = 0 := q1
      have e : catE g (k + 1) = errOf (g k) := by rw [catE, decide_eq_true hok, decide_eq_false q1']; rfl
      exact hne (by rw [e]; exact q1') e
    · have q1' : errOf (g k) = 0 := q1
      refine condP_dec (fun q2 => ?_) (fun q2 => ?_)
      · have ek : ((k : Int) - 1).toNat = k - 1 := by omega
        rw [ek]
        refine ⟨by simp only [inR]; omega, ⟨by omega, by omega⟩, ⟨by omega, rfl⟩, condP_not (fun q3 => ⟨fun _ _ => rfl, _, rowsEq1, ?_⟩) (fun q3 => ⟨by simp only [inR]; omega, k + 1, ⟨rfl, rowsEq1⟩, ⟨by omega, ?_⟩, by omega⟩)⟩
        · have e : catE g (k + 1) = 96 := by rw [catE, decide_eq_true hok, decide_eq_true q1', decide_eq_true (show 0 < k by omega), q3]; rfl
          exact hne (by rw [e]; decide) e
        · rw [catE, decide_eq_true hok, decide_eq_true q1', q3]
          cases decide (0 < k) <;> rfl
      · refine ⟨by simp only [inR]; omega, k + 1, ⟨rfl, rowsEq1⟩, ⟨by omega, ?_⟩, by omega⟩
        rw [catE, decide_eq_true hok, decide_eq_true q1', decide_eq_false (show ¬ 0 < k by omega)]; rfl
  · have : k = n := by omega
    subst this
    exact hR.1 (by rw [decide_eq_true hok])

theorem vcr_ok (hP : C.P = Tryd.prog) : SpecOK C 20 S_vcat := by
  rintro args objs U Os vc h hvc
  unfold S_vcat at h
  split at h <;> simp only [Option.some.injEq, Prod.mk.injEq, reduceCtorEq] at h
  rename_i n t m f fr
  obtain ⟨rfl, rfl, rfl⟩ := h
  obtain ⟨rfl, rfl, rfl, hn, hf, hs⟩ := hvc
  generalize prOf f = g at *
  rw [hf]
  unfold catF
  refine SpecOK.wpL (prg hP) [(9, .det S_valV)] [(4, L_vc g n)] 0 (.cons (valRV_ok hP) .nil) (hP ▸ Tryd.func20) rfl rfl rfl [(loopC Tryd.f20 4, L_vc g n)] (by kernel_rfl) ⟨vcr_loop hP g n, trivial⟩ ?_
  rw [nf_vcr]
  refine condP_dec (fun q1 => ⟨fun _ _ => rfl, _, rowsEq1, ?_⟩) (fun q1 => ⟨⟨rfl, rowsEq1⟩, by omega, hs, condP_dec (fun q2 => ⟨fun _ _ => rfl, _, rowsEq1, ?_⟩) (fun q2 => ⟨fun _ _ => rfl, _, rowsEq1, ?_⟩)⟩)
  · rw [decide_eq_true (show 200 < n by omega)]; exact ⟨rfl, rfl⟩
  · rw [decide_eq_false (show ¬ 200 < n by omega), q2]; exact ⟨rfl, rfl⟩
  · rw [decide_eq_false (show ¬ 200 < n by omega)]; exact ⟨rfl, rfl⟩
end Go.Eng
