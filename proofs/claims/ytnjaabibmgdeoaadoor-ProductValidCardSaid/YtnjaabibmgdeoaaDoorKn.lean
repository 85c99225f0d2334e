/- Lemmas that the tied card of ProductValid is proved by. -/
import Derived.Test.YtnjaabibmgdeoaaDoorKm
import Derived.Lib.IndexLaws
import Derived.Test.YtnjaabibmgdeoaaDoorKl
/- Runes: plain functions. -/
namespace Go.Eng

def ascii (s : List UInt8) : Bool := s.all fun b => decide (b.toNat < 128)
theorem ascii_at {s : List UInt8} (h : ascii s = true) {k : Nat} (hk : k < s.length) : (s.getD k 0).toNat < 128 := by
  have := List.all_eq_true.1 h (s.getD k 0) (by simp [List.getD, hk])
  exact of_decide_eq_true this
theorem ascii_drop {s : List UInt8} (h : ascii s = true) (n : Nat) : ascii (s.drop n) = true := List.all_eq_true.2 fun b hb => List.all_eq_true.1 h b (List.mem_of_mem_drop hb)

theorem runeAt_lo {s : List UInt8} {k : Nat} (hk : k < s.length) (h : (s.getD k 0).toNat < 128) : runeAt s k = ((s.getD k 0).toNat, 1) := by
  have e : (ByteArray.get! ⟨s.toArray⟩ (k + 0)) = s.getD k 0 := by simp [ByteArray.get!, hk]
  unfold runeAt Utf8.decode
  simp only [e, h, if_true]

theorem runeAt_hi {s : List UInt8} {k : Nat} (hk : k < s.length) (h : 128 ≤ (s.getD k 0).toNat) : 128 ≤ (runeAt s k).1 ∧ (runeAt s k).1 ≤ 1114111 ∧ 1 ≤ (runeAt s k).2 := by
  have e : (ByteArray.get! ⟨s.toArray⟩ (k + 0)) = s.getD k 0 := by simp [ByteArray.get!, hk]
  have hb : (s.getD k 0).toNat < 256 := (s.getD k 0).toNat_lt
  unfold runeAt Utf8.decode
  simp only [e, show ¬ (s.getD k 0).toNat < 128 by omega, if_false, Utf8.runeError]
  repeat' split
  all_goals simp only [Utf8.valid, Bool.and_eq_true, decide_eq_true_eq, Bool.or_eq_true, beq_iff_eq] at *
  all_goals omega

theorem runeAt_pos {s : List UInt8} {k : Nat} (hk : k < s.length) : 1 ≤ (runeAt s k).2 := by
  by_cases h : (s.getD k 0).toNat < 128
  · rw [runeAt_lo hk h]; exact Nat.le_refl _
  · exact (runeAt_hi hk (by omega)).2.2
theorem runeAt_le {s : List UInt8} {k : Nat} (hk : k < s.length) : (runeAt s k).1 ≤ 1114111 := by
  by_cases h : (s.getD k 0).toNat < 128
  · rw [runeAt_lo hk h]; show (s.getD k 0).toNat ≤ 1114111; omega
  · exact (runeAt_hi hk (by omega)).2.1

theorem encode_last {r : Int} (h : 128 ≤ r) (hv : Lib.validRune r = true) : 2 ≤ (Utf8.encode r).data.toList.length ∧ (Utf8.encode r).data.toList.length ≤ 4 ∧ 128 ≤ ((Utf8.encode r).data.toList.getD ((Utf8.encode r).data.toList.length - 1) 0).toNat := by
  have hv' : Utf8.valid r = true := by
    simp only [Lib.validRune, decide_eq_true_eq] at hv
    simp [Utf8.valid]
    omega
  simp only [Lib.validRune, decide_eq_true_eq] at hv
  unfold Utf8.encode
  simp only [hv', if_true]
  generalize hc : r.toNat = c
  have h1 : 128 ≤ c := by omega
  have h2 : c ≤ 1114111 := by omega
  simp only [show ¬ c < 128 by omega, if_false]
  repeat' split
  all_goals simp
  all_goals omega

theorem u8_round (b : UInt8) : (b.toNat : Int).toNat.toUInt8 = b := by simp

theorem indexByte_ascii {s : List UInt8} (h : ascii s = true) {c : UInt8} (hc : 128 ≤ c.toNat) : Lib.indexByte s c = -1 := by
  induction s with
  | nil => rfl
  | cons b l ih =>
    simp only [ascii, List.all_cons, Bool.and_eq_true, decide_eq_true_eq] at h
    have hne : (b == c) = false := by
      cases hb : b == c with
      | false => rfl
      | true => have := eq_of_beq hb; subst this; omega
    simp only [Lib.indexByte, hne, ih h.2]
    rfl

def runeIn (s : List UInt8) (r : Int) : Bool := decide (0 ≤ r) && decide (r < 128) && s.contains (UInt8.ofNat r.toNat)
def idxRune (s : List UInt8) (r : Int) : Int := match decide (r < 128) with
  | true => Lib.indexByte s r.toNat.toUInt8
  | false => -1
def S_indexByte : Spec
  | [.str s, .int .u8 c], [] => some (.int .i64 (Lib.indexByte s c.toNat.toUInt8), [], True)
  | _, _ => none
def S_validRune : Spec
  | [.int .i32 r], [] => some (.bool (Lib.validRune r), [], True)
  | _, _ => none
def S_indexRune : Spec
  | [.str s, .int .i32 r], [] => some (.int .i64 (idxRune s r), [], ascii s = true ∧ s.length ≤ 1000000 ∧ 0 ≤ r ∧ r ≤ 1114111)
  | _, _ => none
def S_containsRune : Spec
  | [.str s, .int .i32 r], [] => some (.bool (decide (0 ≤ idxRune s r)), [], ascii s = true ∧ s.length ≤ 1000000 ∧ 0 ≤ r ∧ r ≤ 1114111)
  | _, _ => none
def S_irState (s : List UInt8) (pos : Nat) : St := ⟨[(0, .str s), (175, .ptr 0 0)], [(0, .siter s pos)], 1, []⟩
/-- The search for U+FFFD in an ASCII string. -/
def L_irError (s : List UInt8) : LSpec := fun st Q => canonIs te 0 [0, 175] st (S_irState s 0) ∧ ascii s = true ∧ Q (.exit 9) ⟨[], [], 0, []⟩
def S_irState2 (s e : List UInt8) : St := ⟨[(0, .str s), (7, .str e), (8, .int .i64 ((e.length : Int) - 1)), (9, .int .i64 ((e.length : Int) - 1))], [], 0, []⟩
/-- The search for a rune beyond ASCII in an ASCII string. -/
def L_irMain (s e : List UInt8) : LSpec := fun st Q => canonIs te 0 [0, 7, 8, 9] st (S_irState2 s e) ∧ ascii s = true ∧ s.length ≤ 1000000 ∧ 2 ≤ e.length ∧ e.length ≤ 4 ∧ 128 ≤ (e.getD (e.length - 1) 0).toNat ∧
  Q (.exit 1) ⟨[], [], 0, []⟩ ∧ Q .ret ⟨[(4, .int .i64 (-1))], [], 0, []⟩

end Go.Eng

/- Runes: the library's functions compute what the plain functions say. -/
namespace Go.Eng
open Go.Proofs Go.RowKit
set_option maxRecDepth 20000

theorem nf_indexRune (s : List UInt8) (r : Int) (R : AV → List (Nat × AObj) → Prop) : wpFn te [(63, .det S_indexByte), (64, .det S_validRune)] [(38, L_irError s), (5, L_irMain s (Utf8.encode r).data.toList), (25, fun _ _ => False)] 0 Tryd.f52 [.str s, .int .i32 r] [] R = (condP (decide ((0 : Int) ≤ r)) (condP (decide (r < (128 : Int))) (inR .u8 r ∧ True ∧ R (.int .i64 (Lib.indexByte s (Nat.toUInt8 (Int.toNat r)))) []) (condP (decide (r = (65533 : Int))) (some (St.mk [(0, .str s), (175, .ptr 0 0)] [(0, .siter s 0)] 1 []) = some (St.mk [(0, .str s), (175, .ptr 0 0)] [(0, .siter s 0)] 1 []) ∧ ascii s = true ∧ R (.int .i64 (-1 : Int)) []) (True ∧ condP (!Lib.validRune r) (R (.int .i64 (-1 : Int)) []) (True ∧ inR .i64 ((↑(List.length (Array.toList (ByteArray.data (Utf8.encode r)))) : Int) - (1 : Int)) ∧ some (St.mk [(0, .str s), (7, .str (Array.toList (ByteArray.data (Utf8.encode r)))), (8, .int .i64 ((↑(List.length (Array.toList (ByteArray.data (Utf8.encode r)))) : Int) - (1 : Int))), (9, .int .i64 ((↑(List.length (Array.toList (ByteArray.data (Utf8.encode r)))) : Int) - (1 : Int)))] [] 0 []) = some (St.mk [(0, .str s), (7, .str (Array.toList (ByteArray.data (Utf8.encode r)))), (8, .int .i64 ((↑(List.length (Array.toList (ByteArray.data (Utf8.encode r)))) : Int) - (1 : Int))), (9, .int .i64 ((↑(List.length (Array.toList (ByteArray.data (Utf8.encode r)))) : Int) - (1 : Int)))] [] 0 []) ∧ ascii s = true ∧ List.length s ≤ 1000000 ∧ 2 ≤ List.length (Array.toList (ByteArray.data (Utf8.encode r))) ∧ List.length (Array.toList (ByteArray.data (Utf8.encode r))) ≤ 4 ∧ 128 ≤ UInt8.toNat (List.getD (Array.toList (ByteArray.data (Utf8.encode r))) (List.length (Array.toList (ByteArray.data (Utf8.encode r))) - 1) (0 : UInt8)) ∧ R (.int .i64 (-1 : Int)) [] ∧ R (.int .i64 (-1 : Int)) [])))) (condP (decide (r = (65533 : Int))) (some (St.mk [(0, .str s), (175, .ptr 0 0)] [(0, .siter s 0)] 1 []) = some (St.mk [(0, .str s), (175, .ptr 0 0)] [(0, .siter s 0)] 1 []) ∧ ascii s = true ∧ R (.int .i64 (-1 : Int)) []) (True ∧ condP (!Lib.validRune r) (R (.int .i64 (-1 : Int)) []) (True ∧ inR .i64 ((↑(List.length (Array.toList (ByteArray.data (Utf8.encode r)))) : Int) - (1 : Int)) ∧ some (St.mk [(0, .str s), (7, .str (Array.toList (ByteArray.data (Utf8.encode r)))), (8, .int .i64 ((↑(List.length (Array.toList (ByteArray.data (Utf8.encode r)))) : Int) - (1 : Int))), (9, .int .i64 ((↑(List.length (Array.toList (ByteArray.data (Utf8.encode r)))) : Int) - (1 : Int)))] [] 0 []) = some (St.mk [(0, .str s), (7, .str (Array.toList (ByteArray.data (Utf8.encode r)))), (8, .int .i64 ((↑(List.length (Array.toList (ByteArray.data (Utf8.encode r)))) : Int) - (1 : Int))), (9, .int .i64 ((↑(List.length (Array.toList (ByteArray.data (Utf8.encode r)))) : Int) - (1 : Int)))] [] 0 []) ∧ ascii s = true ∧ List.length s ≤ 1000000 ∧ 2 ≤ List.length (Array.toList (ByteArray.data (Utf8.encode r))) ∧ List.length (Array.toList (ByteArray.data (Utf8.encode r))) ≤ 4 ∧ 128 ≤ UInt8.toNat (List.getD (Array.toList (ByteArray.data (Utf8.encode r))) (List.length (Array.toList (ByteArray.data (Utf8.encode r))) - 1) (0 : UInt8)) ∧ R (.int .i64 (-1 : Int)) [] ∧ R (.int .i64 (-1 : Int)) [])))) := by kernel_rfl
theorem nf_irError (s : List UInt8) (k : Nat) (P : Nat → Prop) (R : Exit → St → Prop) : roundP ⟨te, [], [], 0, 187, 0⟩ (loopB Tryd.f52 38) [0, 175] [] [4] (S_irState s) P R (S_irState s k) = (condP (decide (k < List.length s)) (True ∧ condP (decide ((↑(Prod.fst (runeAt s k)) : Int) = (65533 : Int))) (R .ret (St.mk [(4, .int .i64 (↑k : Int))] [] 0 [])) (∃ (i' : Nat), some (St.mk [(0, .str s), (175, .ptr 0 0)] [(0, .siter s (k + Prod.snd (runeAt s k)))] 1 []) = some (St.mk [(0, .str s), (175, .ptr 0 0)] [(0, .siter s i')] 1 []) ∧ P i')) (True ∧ R (.exit 9) (St.mk [] [] 0 []))) := by kernel_rfl
theorem nf_irMain (s e : List UInt8) (P : Unit → Prop) (R : Exit → St → Prop) : roundP ⟨te, [(63, .det S_indexByte)], [(12, fun _ _ => False), (1015, fun _ _ => False), (1016, fun _ _ => False)], 0, 187, 0⟩ (loopB Tryd.f52 5) [0, 7, 8, 9] [] [4] (fun _ => S_irState2 s e) P R (S_irState2 s e) = (condP (decide ((↑(List.length e) : Int) - (1 : Int) < (↑(List.length s) : Int))) (((0 : Int) ≤ (↑(List.length e) : Int) - (1 : Int) ∧ (↑(List.length e) : Int) - (1 : Int) < (↑(List.length s) : Int)) ∧ ((0 : Int) ≤ (↑(List.length e) : Int) - (1 : Int) ∧ (↑(List.length e) : Int) - (1 : Int) < (↑(List.length e) : Int)) ∧ condP (!decide ((↑(UInt8.toNat (List.getD s (Int.toNat ((↑(List.length e) : Int) - (1 : Int))) (0 : UInt8))) : Int) = (↑(UInt8.toNat (List.getD e (Int.toNat ((↑(List.length e) : Int) - (1 : Int))) (0 : UInt8))) : Int))) (inR .i64 ((↑(List.length e) : Int) - (1 : Int) + (1 : Int)) ∧ ((0 : Int) ≤ (↑(List.length e) : Int) - (1 : Int) + (1 : Int) ∧ (↑(List.length e) : Int) - (1 : Int) + (1 : Int) ≤ (↑(List.length s) : Int)) ∧ ((0 : Int) ≤ (↑(List.length e) : Int) - (1 : Int) ∧ (↑(List.length e) : Int) - (1 : Int) < (↑(List.length e) : Int)) ∧ True ∧ condP (decide (Lib.indexByte (List.drop (Int.toNat ((↑(List.length e) : Int) - (1 : Int) + (1 : Int))) s) (Nat.toUInt8 (Int.toNat (↑(UInt8.toNat (List.getD e (Int.toNat ((↑(List.length e) : Int) - (1 : Int))) (0 : UInt8))) : Int))) < (0 : Int))) (R .ret (St.mk [(4, .int .i64 (-1 : Int))] [] 0 [])) (inR .i64 (Lib.indexByte (List.drop (Int.toNat ((↑(List.length e) : Int) - (1 : Int) + (1 : Int))) s) (Nat.toUInt8 (Int.toNat (↑(UInt8.toNat (List.getD e (Int.toNat ((↑(List.length e) : Int) - (1 : Int))) (0 : UInt8))) : Int))) + (1 : Int)) ∧ inR .i64 ((↑(List.length e) : Int) - (1 : Int) + (Lib.indexByte (List.drop (Int.toNat ((↑(List.length e) : Int) - (1 : Int) + (1 : Int))) s) (Nat.toUInt8 (Int.toNat (↑(UInt8.toNat (List.getD e (Int.toNat ((↑(List.length e) : Int) - (1 : Int))) (0 : UInt8))) : Int))) + (1 : Int))) ∧ False)) False) (R (.exit 1) (St.mk [] [] 0 []))) := by kernel_rfl
theorem nf_containsRune (s : List UInt8) (r : Int) (R : AV → List (Nat × AObj) → Prop) : wpFn te [(52, .det S_indexRune)] [] 0 Tryd.f39 [.str s, .int .i32 r] [] R = ((ascii s = true ∧ List.length s ≤ 1000000 ∧ (0 : Int) ≤ r ∧ r ≤ (1114111 : Int)) ∧ R (.bool (decide ((0 : Int) ≤ idxRune s r))) []) := by kernel_rfl


variable {C : Ctx}

theorem indexByte_ok (hP : C.P = Tryd.prog) : SpecOK C 63 S_indexByte := by
  rintro args objs U Os vc h hvc
  unfold S_indexByte at h
  split at h <;> simp only [Option.some.injEq, Prod.mk.injEq, reduceCtorEq] at h
  rename_i s c
  obtain ⟨rfl, rfl, rfl⟩ := h
  refine ACalls.below ⟨Tryd.f63, hP ▸ Tryd.func63, rfl, by decide⟩ fun w M cargs _ _ hM hl hv => ?_
  obtain ⟨a, b, rfl⟩ := mem2 hl
  have e1 := (hv 0 _ _ rfl rfl).str_iff
  have e2 := (hv 1 _ _ rfl rfl).int_iff
  subst e1; subst e2
  rw [hP]
  refine (Tryd.strings_IndexByte ⟨s.toArray⟩ c w).mono ?_
  rintro e w' ⟨rfl, rfl⟩
  exact ⟨_, rfl, Below.refl _ _, .int⟩

theorem validRune_ok (hP : C.P = Tryd.prog) : SpecOK C 64 S_validRune := by
  rintro args objs U Os vc h hvc
  unfold S_validRune at h
  split at h <;> simp only [Option.some.injEq, Prod.mk.injEq, reduceCtorEq] at h
  rename_i r
  obtain ⟨rfl, rfl, rfl⟩ := h
  refine ACalls.below ⟨Tryd.f64, hP ▸ Tryd.func64, rfl, by decide⟩ fun w M cargs _ _ hM hl hv => ?_
  obtain ⟨a, rfl⟩ := mem1 hl
  have e1 := (hv 0 _ _ rfl rfl).int_iff
  subst e1
  rw [hP]
  refine (Tryd.utf8_ValidRune r w).mono ?_
  rintro e w' ⟨rfl, rfl⟩
  exact ⟨_, rfl, Below.refl _ _, .bool⟩

theorem irError_ok (hP : C.P = Tryd.prog) (s : List UInt8) : LoopOK C 0 187 (loopC Tryd.f52 38) (L_irError s) := by
  rintro st Q ⟨h0, ha, hQ⟩
  refine LoopOK.mk (prg hP) [] 0 .nil [0, 175] [] [4] (S_irState s) (fun k => k ≤ s.length) (fun k => s.length - k) 0 (Nat.zero_le _) h0 fun k hk => ?_
  rw [nf_irError]
  refine condP_intro (fun h => ?_) (fun h => ⟨trivial, hQ⟩)
  have h := of_decide_eq_true h
  have hlt := ascii_at ha h
  rw [runeAt_lo h hlt]
  refine ⟨trivial, condP_intro (fun h' => ?_) (fun _ => ⟨k + 1, rfl, by omega, by omega⟩)⟩
  have h' := of_decide_eq_true h'
  simp only at h'
  omega

theorem irMain_ok (hP : C.P = Tryd.prog) (s e : List UInt8) : LoopOK C 0 187 (loopC Tryd.f52 5) (L_irMain s e) := by
  rintro st Q ⟨h0, ha, hs, h2, h4, hl, hQ1, hQ2⟩
  refine LoopOK.mkL (prg hP) [(63, .det S_indexByte)] [(12, fun _ _ => False), (1015, fun _ _ => False), (1016, fun _ _ => False)] 0 (.cons (indexByte_ok hP) .nil)
    [(loopC Tryd.f52 12, fun _ _ => False), (regC Tryd.f52 15, fun _ _ => False), (regC Tryd.f52 16, fun _ _ => False)] (by kernel_rfl)
    ⟨fun _ _ h => h.elim, fun _ _ h => h.elim, fun _ _ h => h.elim, trivial⟩ [0, 7, 8, 9] [] [4] (fun _ : Unit => S_irState2 s e) (fun _ => True) (fun _ => 0) () trivial h0 fun _ _ => ?_
  rw [nf_irMain]
  refine condP_intro (fun h => ?_) (fun h => hQ1)
  have h := of_decide_eq_true h
  have e1 : ((e.length : Int) - 1).toNat = e.length - 1 := by omega
  have e2 : ((e.length : Int) - 1 + 1).toNat = e.length := by omega
  have hlo := ascii_at ha (k := e.length - 1) (by omega)
  simp only [e1, e2, inR]
  have hne : decide (((s.getD (e.length - 1) 0).toNat : Int) = ((e.getD (e.length - 1) 0).toNat : Int)) = false := decide_eq_false (by omega)
  rw [hne]
  have hb : (e.getD (e.length - 1) 0).toNat < 256 := (e.getD (e.length - 1) 0).toNat_lt
  have hneg := indexByte_ascii (ascii_drop ha e.length) (c := ((e.getD (e.length - 1) 0).toNat : Int).toNat.toUInt8) (by rw [u8_round]; exact hl)
  refine ⟨by omega, by omega, by omega, by omega, by omega, trivial, ?_⟩
  rw [hneg]
  exact hQ2

theorem indexRune_ok (hP : C.P = Tryd.prog) : SpecOK C 52 S_indexRune := by
  rintro args objs U Os vc h hvc
  unfold S_indexRune at h
  split at h <;> simp only [Option.some.injEq, Prod.mk.injEq, reduceCtorEq] at h
  rename_i s r
  obtain ⟨rfl, rfl, rfl⟩ := h
  obtain ⟨ha, hs, h0, h1⟩ := hvc
  refine SpecOK.wpL (prg hP) [(63, .det S_indexByte), (64, .det S_validRune)] [(38, L_irError s), (5, L_irMain s (Utf8.encode r).data.toList), (25, fun _ _ => False)] 0
    (.cons (indexByte_ok hP) (.cons (validRune_ok hP) .nil)) (hP ▸ Tryd.func52) rfl rfl rfl
    [(loopC Tryd.f52 38, L_irError s), (loopC Tryd.f52 5, L_irMain s (Utf8.encode r).data.toList), (loopC Tryd.f52 25, fun _ _ => False)] (by kernel_rfl)
    ⟨irError_ok hP s, irMain_ok hP s _, fun _ _ h => h.elim, trivial⟩ ?_
  rw [nf_indexRune]
  refine condP_intro (fun _ => condP_intro (fun h => ?_) (fun h => ?_)) (fun h => absurd h0 (of_decide_eq_false h))
  · have h' := of_decide_eq_true h
    refine ⟨by simp only [inR]; omega, trivial, ?_, rfl⟩
    simp only [idxRune, h]
  · have h' := of_decide_eq_false h
    refine condP_intro (fun _ => ⟨rfl, ha, ?_, rfl⟩) (fun _ => ⟨trivial, condP_intro (fun _ => ⟨?_, rfl⟩) (fun hv => ?_)⟩)
    · simp only [idxRune, h]
    · simp only [idxRune, h]
    · have hv : Lib.validRune r = true := by simpa using hv
      obtain ⟨l1, l2, l3⟩ := encode_last (by omega) hv
      refine ⟨trivial, by simp only [inR]; omega, rfl, ha, hs, l1, l2, l3, ⟨?_, rfl⟩, ⟨?_, rfl⟩⟩
      · simp only [idxRune, h]
      · simp only [idxRune, h]

theorem containsRune_ok (hP : C.P = Tryd.prog) : SpecOK C 39 S_containsRune := by
  rintro args objs U Os vc h hvc
  unfold S_containsRune at h
  split at h <;> simp only [Option.some.injEq, Prod.mk.injEq, reduceCtorEq] at h
  rename_i s r
  obtain ⟨rfl, rfl, rfl⟩ := h
  refine SpecOK.wp0 (prg hP) [(52, .det S_indexRune)] 0 (.cons (indexRune_ok hP) .nil) (hP ▸ Tryd.func39) rfl rfl rfl ?_
  rw [nf_containsRune]
  exact ⟨hvc, rfl, rfl⟩

end Go.Eng

/- Names of products: plain functions. -/
namespace Go.Eng

def nameAll : List UInt8 := [97, 98, 99, 100, 101, 102, 103, 104, 105, 106, 107, 108, 109, 110, 111, 112, 113, 114, 115, 116, 117, 118, 119, 120, 121, 122, 48, 49, 50, 51, 52, 53, 54, 55, 56, 57, 45, 46]
def nameFirst : List UInt8 := [97, 98, 99, 100, 101, 102, 103, 104, 105, 106, 107, 108, 109, 110, 111, 112, 113, 114, 115, 116, 117, 118, 119, 120, 121, 122, 48, 49, 50, 51, 52, 53, 54, 55, 56, 57]
def isLet (b : UInt8) : Bool := decide (97 ≤ b.toNat) && decide (b.toNat ≤ 122) || decide (48 ≤ b.toNat) && decide (b.toNat ≤ 57)
def isNB (b : UInt8) : Bool := isLet b || decide (b.toNat = 45) || decide (b.toNat = 46)
theorem nameAll_has (b : UInt8) : nameAll.contains b = isNB b := by
  have : ∀ n, n < 256 → nameAll.contains (UInt8.ofNat n) = isNB (UInt8.ofNat n) := by decide +kernel
  simpa using this b.toNat b.toNat_lt
theorem nameFirst_has (b : UInt8) : nameFirst.contains b = isLet b := by
  have : ∀ n, n < 256 → nameFirst.contains (UInt8.ofNat n) = isLet (UInt8.ofNat n) := by decide +kernel
  simpa using this b.toNat b.toNat_lt
theorem nameAll_ascii : ascii nameAll = true := by decide +kernel

theorem indexByte_iff (l : List UInt8) (c : UInt8) : 0 ≤ Lib.indexByte l c ↔ l.contains c = true := by
  induction l with
  | nil => simp [Lib.indexByte]
  | cons b l ih =>
    have hge := Lib.indexByte_ge l c
    simp only [Lib.indexByte, List.contains_cons, Bool.or_eq_true, beq_iff_eq]
    by_cases h : b = c
    · subst h; simp
    · have h' : ¬ c = b := fun e => h e.symm
      simp only [h, if_false, h', false_or, ← ih]
      split <;> omega

theorem nameRune_lo (b : UInt8) (h : b.toNat < 128) : decide (0 ≤ idxRune nameAll (b.toNat : Int)) = isNB b := by
  have e : decide ((b.toNat : Int) < 128) = true := decide_eq_true (by omega)
  simp only [idxRune, e, u8_round]
  rw [← nameAll_has]
  cases hc : nameAll.contains b with
  | true => exact decide_eq_true ((indexByte_iff _ _).2 hc)
  | false => exact decide_eq_false fun hh => by rw [(indexByte_iff _ _).1 hh] at hc; cases hc
theorem nameRune_hi (r : Nat) (h : 128 ≤ r) : decide (0 ≤ idxRune nameAll (r : Int)) = false := by
  have e : decide ((r : Int) < 128) = false := decide_eq_false (by omega)
  simp only [idxRune, e]
  rfl

def S_name1 : Spec
  | [.int .i32 r], [] => some (.bool (!decide (0 ≤ idxRune nameAll r)), [], 0 ≤ r ∧ r ≤ 1114111)
  | _, _ => none
def badAt (s : List UInt8) : Nat := s.findIdx fun b => !isNB b
def firstBad (s : List UInt8) : Int := match s.all isNB with
  | true => -1
  | false => badAt s
def S_ifState (s : List UInt8) (pos : Nat) : St := ⟨[(1, .func 38 []), (2, .bool true), (10, .ptr 0 0)], [(0, .siter s pos)], 1, []⟩
def L_indexFunc (s : List UInt8) : LSpec := fun st Q => canonIs te 0 [1, 2, 10] st (S_ifState s 0) ∧ condP (s.all isNB) (Q (.exit 0) ⟨[], [], 0, []⟩) (Q .ret ⟨[(6, .int .i64 (badAt s))], [], 0, []⟩)
def S_indexFunc : Spec
  | [.str s, .func 38 [], .bool true], [] => some (.int .i64 (firstBad s), [], True)
  | _, _ => none
def S_IndexFunc : Spec
  | [.str s, .func 38 []], [] => some (.int .i64 (firstBad s), [], True)
  | _, _ => none
def S_ContainsFunc : Spec
  | [.str s, .func 38 []], [] => some (.bool (!s.all isNB), [], True)
  | _, _ => none
def nameF (s : List UInt8) : Bool := decide (1 ≤ s.length) && decide (s.length ≤ 24) && isLet (s.getD 0 0) && s.all isNB
def S_name : Spec
  | [.str s], [] => some (.bool (nameF s), [], True)
  | _, _ => none

theorem badAt_spec {s : List UInt8} (h : s.all isNB = false) : badAt s < s.length ∧ isNB (s.getD (badAt s) 0) = false ∧ ∀ k, k < badAt s → isNB (s.getD k 0) = true := by
  have hlt : badAt s < s.length := by
    unfold badAt
    rw [List.findIdx_lt_length]
    have : ¬ ∀ x ∈ s, isNB x = true := fun hh => by rw [List.all_eq_true.2 hh] at h; cases h
    simp only [Classical.not_forall] at this
    obtain ⟨x, hx, hb⟩ := this
    exact ⟨x, hx, by simpa using hb⟩
  refine ⟨hlt, ?_, fun k hk => ?_⟩
  · have := List.findIdx_getElem (p := fun b => !isNB b) (xs := s) (w := hlt)
    have e : s.getD (badAt s) 0 = s[badAt s] := by simp [List.getD, hlt]
    rw [e]
    show isNB s[List.findIdx (fun b => !isNB b) s] = false
    simpa using this
  · have hk' : k < s.length := Nat.lt_trans hk hlt
    have := List.not_of_lt_findIdx (p := fun b => !isNB b) (xs := s) hk
    have e : s.getD k 0 = s[k] := by simp [List.getD, hk']
    rw [e]
    simpa using this

theorem trimF_first (b : UInt8) : decide (trimF [97, 98, 99, 100, 101, 102, 103, 104, 105, 106, 107, 108, 109, 110, 111, 112, 113, 114, 115, 116, 117, 118, 119, 120, 121, 122, 48, 49, 50, 51, 52, 53, 54, 55, 56, 57] [b] = []) = isLet b := by
  have h := trimF_nil nameFirst [b]
  simp only [List.all_cons, List.all_nil, Bool.and_true, nameFirst_has] at h
  cases hb : isLet b with
  | true => exact decide_eq_true (h.2 hb)
  | false => exact decide_eq_false fun he => by rw [h.1 he] at hb; cases hb

theorem firstBad_neg (s : List UInt8) : decide (0 ≤ firstBad s) = !s.all isNB := by
  unfold firstBad
  cases s.all isNB with
  | true => rfl
  | false => exact decide_eq_true (Int.natCast_nonneg _)

end Go.Eng

/- Names of products: the functions compute what the plain functions say. -/
namespace Go.Eng
open Go.Proofs Go.RowKit
set_option maxRecDepth 20000

theorem nf_name1 (r : Int) (R : AV → List (Nat × AObj) → Prop) : wpFn te [(39, .det S_containsRune)] [] 0 Tryd.f38 [.int .i32 r] [] R = ((true = true ∧ 38 ≤ 1000000 ∧ (0 : Int) ≤ r ∧ r ≤ (1114111 : Int)) ∧ R (.bool !decide ((0 : Int) ≤ idxRune ([(97 : UInt8), 98, 99, 100, 101, 102, 103, 104, 105, 106, 107, 108, 109, 110, 111, 112, 113, 114, 115, 116, 117, 118, 119, 120, 121, 122, 48, 49, 50, 51, 52, 53, 54, 55, 56, 57, 45, 46]) r)) []) := by kernel_rfl
theorem nf_indexFunc (s : List UInt8) (R : AV → List (Nat × AObj) → Prop) : wpFn te [] [(2, L_indexFunc s)] 0 Tryd.f62 [.str s, .func 38 [], .bool true] [] R = (some (St.mk [(1, .func 38 []), (2, .bool true), (10, .ptr 0 0)] [(0, .siter s 0)] 1 []) = some (St.mk [(1, .func 38 []), (2, .bool true), (10, .ptr 0 0)] [(0, .siter s 0)] 1 []) ∧ condP (List.all s isNB) (R (.int .i64 (-1 : Int)) []) (R (.int .i64 (↑(badAt s) : Int)) [])) := by kernel_rfl
theorem nf_indexFunc_round (s : List UInt8) (k : Nat) (P : Nat → Prop) (R : Exit → St → Prop) : roundP ⟨te, [(38, .det S_name1)], [], 0, 21, 0⟩ (loopB Tryd.f62 2) [1, 2, 10] [] [6] (S_ifState s) P R (S_ifState s k) = (condP (decide (k < List.length s)) (True ∧ ((0 : Int) ≤ (↑(Prod.fst (runeAt s k)) : Int) ∧ (↑(Prod.fst (runeAt s k)) : Int) ≤ (1114111 : Int)) ∧ condP (decide ((!decide ((0 : Int) ≤ idxRune nameAll (↑(Prod.fst (runeAt s k)) : Int))) = true)) (R .ret (St.mk [(6, .int .i64 (↑k : Int))] [] 0 [])) (∃ (i' : Nat), some (St.mk [(1, .func 38 []), (2, .bool true), (10, .ptr 0 0)] [(0, .siter s (k + Prod.snd (runeAt s k)))] 1 []) = some (St.mk [(1, .func 38 []), (2, .bool true), (10, .ptr 0 0)] [(0, .siter s i')] 1 []) ∧ P i')) (True ∧ R (.exit 0) (St.mk [] [] 0 []))) := by kernel_rfl
theorem nf_IndexFunc (s : List UInt8) (R : AV → List (Nat × AObj) → Prop) : wpFn te [(62, .det S_indexFunc)] [] 0 Tryd.f51 [.str s, .func 38 []] [] R = (True ∧ R (.int .i64 (firstBad s)) []) := by kernel_rfl
theorem nf_ContainsFunc (s : List UInt8) (R : AV → List (Nat × AObj) → Prop) : wpFn te [(51, .det S_IndexFunc)] [] 0 Tryd.f37 [.str s, .func 38 []] [] R = (True ∧ R (.bool (decide ((0 : Int) ≤ firstBad s))) []) := by kernel_rfl
theorem nf_name (s : List UInt8) (R : AV → List (Nat × AObj) → Prop) : wpFn te [(36, .det S_trim), (37, .det S_ContainsFunc)] [] 0 Tryd.f23 [.str s] [] R = (condP (!decide (s = [])) (condP (decide ((↑(List.length s) : Int) ≤ (24 : Int))) (((0 : Int) ≤ (1 : Int) ∧ (1 : Int) ≤ (↑(List.length s) : Int)) ∧ (List.length (List.take (Int.toNat (1 : Int)) s) ≤ 9223372036854775807 ∧ 2 ≤ 36 ∧ 36 < 4294967281 ∧ ∀ (b : UInt8), b ∈ [(97 : UInt8), 98, 99, 100, 101, 102, 103, 104, 105, 106, 107, 108, 109, 110, 111, 112, 113, 114, 115, 116, 117, 118, 119, 120, 121, 122, 48, 49, 50, 51, 52, 53, 54, 55, 56, 57] → UInt8.toNat b < 128) ∧ condP (decide (trimF ([(97 : UInt8), 98, 99, 100, 101, 102, 103, 104, 105, 106, 107, 108, 109, 110, 111, 112, 113, 114, 115, 116, 117, 118, 119, 120, 121, 122, 48, 49, 50, 51, 52, 53, 54, 55, 56, 57]) (List.take (Int.toNat (1 : Int)) s) = [])) (True ∧ R (.bool !!List.all s isNB) []) (R (.bool false) [])) (R (.bool false) [])) (R (.bool false) [])) := by kernel_rfl


variable {C : Ctx}

theorem name1_ok (hP : C.P = Tryd.prog) : SpecOK C 38 S_name1 := by
  rintro args objs U Os vc h hvc
  unfold S_name1 at h
  split at h <;> simp only [Option.some.injEq, Prod.mk.injEq, reduceCtorEq] at h
  rename_i r
  obtain ⟨rfl, rfl, rfl⟩ := h
  refine SpecOK.wp0 (prg hP) [(39, .det S_containsRune)] 0 (.cons (containsRune_ok hP) .nil) (hP ▸ Tryd.func38) rfl rfl rfl ?_
  rw [nf_name1]
  exact ⟨⟨rfl, by omega, hvc.1, hvc.2⟩, rfl, rfl⟩

theorem indexFunc_loop (hP : C.P = Tryd.prog) (s : List UInt8) : LoopOK C 0 21 (loopC Tryd.f62 2) (L_indexFunc s) := by
  rintro st Q ⟨h0, hQ⟩
  have hQ := condP_elim hQ
  refine LoopOK.mk (prg hP) [(38, .det S_name1)] 0 (.cons (name1_ok hP) .nil) [1, 2, 10] [] [6] (S_ifState s) (fun k => k ≤ s.length ∧ ∀ j, j < k → isNB (s.getD j 0) = true) (fun k => s.length - k) 0 ⟨Nat.zero_le _, fun j h => by omega⟩ h0 fun k ⟨hk, hall⟩ => ?_
  rw [nf_indexFunc_round]
  refine condP_intro (fun h => ?_) (fun h => ⟨trivial, ?_⟩)
  · have h := of_decide_eq_true h
    have hle := runeAt_le h
    refine ⟨trivial, ⟨by omega, by omega⟩, ?_⟩
    -- what the predicate says of the rune is what isNB says of the byte
    have key : (decide (0 ≤ idxRune nameAll ((runeAt s k).1 : Int))) = isNB (s.getD k 0) ∧ (isNB (s.getD k 0) = true → (runeAt s k).2 = 1) := by
      by_cases hlo : (s.getD k 0).toNat < 128
      · rw [runeAt_lo h hlo]
        exact ⟨nameRune_lo _ hlo, fun _ => rfl⟩
      · have hh := runeAt_hi h (by omega)
        have hn : isNB (s.getD k 0) = false := by
          generalize s.getD k 0 = b at *
          simp only [isNB, isLet, Bool.or_eq_false_iff, Bool.and_eq_false_imp, decide_eq_true_eq, decide_eq_false_iff_not]
          omega
        rw [nameRune_hi _ hh.1, hn]
        exact ⟨rfl, fun h => by cases h⟩
    rw [key.1]
    refine condP_intro (fun hb => ?_) (fun hb => ?_)
    · have hb : isNB (s.getD k 0) = false := by simpa using hb
      have hf : s.all isNB = false := by
        cases ha : s.all isNB with
        | false => rfl
        | true =>
          have := List.all_eq_true.1 ha (s.getD k 0) (by simp [List.getD, h])
          rw [hb] at this; cases this
      obtain ⟨b1, b2, b3⟩ := badAt_spec hf
      have : badAt s = k := by
        rcases Nat.lt_trichotomy (badAt s) k with hl | hl | hl
        · rw [hall _ hl] at b2; cases b2
        · exact hl
        · rw [b3 k hl] at hb; cases hb
      have hq := hQ.2 hf
      rw [this] at hq
      exact hq
    · have hb : isNB (s.getD k 0) = true := by simpa using hb
      rw [key.2 hb]
      refine ⟨k + 1, rfl, ⟨by omega, fun j hj => ?_⟩, by omega⟩
      rcases Nat.lt_succ_iff_lt_or_eq.1 hj with hj | rfl
      · exact hall j hj
      · exact hb
  · have h := of_decide_eq_false h
    refine hQ.1 (List.all_eq_true.2 fun b hb => ?_)
    obtain ⟨j, hj, rfl⟩ := List.getElem_of_mem hb
    have := hall j (by omega)
    simpa [List.getD, hj] using this

theorem indexFunc_ok (hP : C.P = Tryd.prog) : SpecOK C 62 S_indexFunc := by
  rintro args objs U Os vc h hvc
  unfold S_indexFunc at h
  split at h <;> simp only [Option.some.injEq, Prod.mk.injEq, reduceCtorEq] at h
  rename_i s
  obtain ⟨rfl, rfl, rfl⟩ := h
  refine SpecOK.wpL (prg hP) [] [(2, L_indexFunc s)] 0 .nil (hP ▸ Tryd.func62) rfl rfl rfl [(loopC Tryd.f62 2, L_indexFunc s)] (by kernel_rfl) ⟨indexFunc_loop hP s, trivial⟩ ?_
  rw [nf_indexFunc]
  refine ⟨rfl, condP_intro (fun h => ⟨?_, rfl⟩) (fun h => ⟨?_, rfl⟩)⟩
  · simp only [firstBad, h]
  · simp only [firstBad, h]

theorem IndexFunc_ok (hP : C.P = Tryd.prog) : SpecOK C 51 S_IndexFunc := by
  rintro args objs U Os vc h hvc
  unfold S_IndexFunc at h
  split at h <;> simp only [Option.some.injEq, Prod.mk.injEq, reduceCtorEq] at h
  rename_i s
  obtain ⟨rfl, rfl, rfl⟩ := h
  refine SpecOK.wp0 (prg hP) [(62, .det S_indexFunc)] 0 (.cons (indexFunc_ok hP) .nil) (hP ▸ Tryd.func51) rfl rfl rfl ?_
  rw [nf_IndexFunc]
  exact ⟨trivial, rfl, rfl⟩

theorem ContainsFunc_ok (hP : C.P = Tryd.prog) : SpecOK C 37 S_ContainsFunc := by
  rintro args objs U Os vc h hvc
  unfold S_ContainsFunc at h
  split at h <;> simp only [Option.some.injEq, Prod.mk.injEq, reduceCtorEq] at h
  rename_i s
  obtain ⟨rfl, rfl, rfl⟩ := h
  refine SpecOK.wp0 (prg hP) [(51, .det S_IndexFunc)] 0 (.cons (IndexFunc_ok hP) .nil) (hP ▸ Tryd.func37) rfl rfl rfl ?_
  rw [nf_ContainsFunc, firstBad_neg]
  exact ⟨trivial, rfl, rfl⟩

theorem name_ok (hP : C.P = Tryd.prog) : SpecOK C 23 S_name := by
  rintro args objs U Os vc h hvc
  unfold S_name at h
  split at h <;> simp only [Option.some.injEq, Prod.mk.injEq, reduceCtorEq] at h
  rename_i s
  obtain ⟨rfl, rfl, rfl⟩ := h
  refine SpecOK.wp0 (prg hP) [(36, .det S_trim), (37, .det S_ContainsFunc)] 0 (.cons (trim_ok hP) (.cons (ContainsFunc_ok hP) .nil)) (hP ▸ Tryd.func23) rfl rfl rfl ?_
  rw [nf_name]
  cases s with
  | nil => exact ⟨rfl, rfl⟩
  | cons b r =>
    have e : (b :: r).take (Int.toNat 1) = [b] := rfl
    have hasc : ∀ x ∈ nameFirst, UInt8.toNat x < 128 := by decide +kernel
    rw [e, trimF_first]
    have hl : (List.length (b :: r) : Int) = r.length + 1 := by simp
    have hl' : List.length (b :: r) = r.length + 1 := rfl
    have hd : (b :: r).getD 0 0 = b := rfl
    refine condP_intro (fun _ => condP_intro (fun h => ⟨by omega, ⟨by simp, by omega, by omega, hasc⟩, condP_intro (fun h' => ⟨trivial, ?_, rfl⟩) (fun h' => ⟨?_, rfl⟩)⟩) (fun h => ⟨?_, rfl⟩)) (fun h => by simp at h)
    · have h := of_decide_eq_true h
      simp only [nameF, hd, h', hl', Bool.not_not]
      rw [decide_eq_true (by omega), decide_eq_true (by omega)]
      rfl
    · simp only [nameF, hd, h', Bool.and_false, Bool.false_and]
    · have h := of_decide_eq_false h
      simp only [nameF, hl']
      rw [decide_eq_false (p := r.length + 1 ≤ 24) (by omega)]
      simp

end Go.Eng

