/- Lemmas that the tied card of ProductCatalogs is proved by. -/
import Derived.Test.YtnjaabibmgdeoaaDoorCl
import Derived.Lib.IndexLaws
import Derived.Test.YtnjaabibmgdeoaaDoorCk
import Derived.Test.YtnjaabibmgdeoaaDoorRows
import Derived.Shelf.Vars
import Derived.FnData
import Derived.LaidLaws
import Derived.Deep.DeepLaidRun
import Derived.WalkKit
import Derived.OpenShut
import Derived.ShutString
import Derived.ChangeOld
import Derived.Test.YtnjaabibmgdeoaaDoorCj
/- Runes: plain functions. -/
namespace Go.Eng

def ascii (s : List UInt8) : Bool := s.all fun b => decide (b.toNat < 128)
theorem ascii_at {s : List UInt8} (h : ascii s = true) {k : Nat} (hk : k < s.length) : (s.getD k 0).toNat < 128 := by
  have := List.all_eq_true.1 h (s.getD k 0) (by simp [List.getD, hk])
  exact of_decide_eq_true this
theorem ascii_drop {s : List UInt8} (h : ascii s = true) (n : Nat) : ascii (s.drop n) = true := List.all_eq_true.2 fun b hb => List.all_eq_true.1 h b (List.mem_of_mem_drop hb)

theorem runeAt_lo {s : List UInt8} {k : Nat} (hk : k < s.length) (h : (s.getD k 0).toNat < 128) : runeAt s k = ((s.getD k 0).toNat, 1) := by
  have e : (ByteArray.get! ⟨s.toArray⟩ (k + 0)) = s.getD k 0 := by simp [ByteArray.get!, hk]
  unfold runeAt Utf8.decode
  simp only [e, h, if_true]

theorem runeAt_hi {s : List UInt8} {k : Nat} (hk : k < s.length) (h : 128 ≤ (s.getD k 0).toNat) : 128 ≤ (runeAt s k).1 ∧ (runeAt s k).1 ≤ 1114111 ∧ 1 ≤ (runeAt s k).2 := by
  have e : (ByteArray.get! ⟨s.toArray⟩ (k + 0)) = s.getD k 0 := by simp [ByteArray.get!, hk]
  have hb : (s.getD k 0).toNat < 256 := (s.getD k 0).toNat_lt
  unfold runeAt Utf8.decode
  simp only [e, show ¬ (s.getD k 0).toNat < 128 by omega, if_false, Utf8.runeError]
  repeat' split
  all_goals simp only [Utf8.valid, Bool.and_eq_true, decide_eq_true_eq, Bool.or_eq_true, beq_iff_eq] at *
  all_goals omega

theorem runeAt_pos {s : List UInt8} {k : Nat} (hk : k < s.length) : 1 ≤ (runeAt s k).2 := by
  by_cases h : (s.getD k 0).toNat < 128
  · rw [runeAt_lo hk h]; exact Nat.le_refl _
  · exact (runeAt_hi hk (by omega)).2.2
theorem runeAt_le {s : List UInt8} {k : Nat} (hk : k < s.length) : (runeAt s k).1 ≤ 1114111 := by
  by_cases h : (s.getD k 0).toNat < 128
  · rw [runeAt_lo hk h]; show (s.getD k 0).toNat ≤ 1114111; omega
  · exact (runeAt_hi hk (by omega)).2.1

theorem encode_last {r : Int} (h : 128 ≤ r) (hv : Lib.validRune r = true) : 2 ≤ (Utf8.encode r).data.toList.length ∧ (Utf8.encode r).data.toList.length ≤ 4 ∧ 128 ≤ ((Utf8.encode r).data.toList.getD ((Utf8.encode r).data.toList.length - 1) 0).toNat := by
  have hv' : Utf8.valid r = true := by
    simp only [Lib.validRune, decide_eq_true_eq] at hv
    simp [Utf8.valid]
    omega
  simp only [Lib.validRune, decide_eq_true_eq] at hv
  unfold Utf8.encode
  simp only [hv', if_true]
  generalize hc : r.toNat = c
  have h1 : 128 ≤ c := by omega
  have h2 : c ≤ 1114111 := by omega
  simp only [show ¬ c < 128 by omega, if_false]
  repeat' split
  all_goals simp
  all_goals omega

theorem u8_round (b : UInt8) : (b.toNat : Int).toNat.toUInt8 = b := by simp

theorem indexByte_ascii {s : List UInt8} (h : ascii s = true) {c : UInt8} (hc : 128 ≤ c.toNat) : Lib.indexByte s c = -1 := by
  induction s with
  | nil => rfl
  | cons b l ih =>
    simp only [ascii, List.all_cons, Bool.and_eq_true, decide_eq_true_eq] at h
    have hne : (b == c) = false := by
      cases hb : b == c with
      | false => rfl
      | true => have := eq_of_beq hb; subst this; omega
    simp only [Lib.indexByte, hne, ih h.2]
    rfl

def runeIn (s : List UInt8) (r : Int) : Bool := decide (0 ≤ r) && decide (r < 128) && s.contains (UInt8.ofNat r.toNat)
def idxRune (s : List UInt8) (r : Int) : Int := match decide (r < 128) with
  | true => Lib.indexByte s r.toNat.toUInt8
  | false => -1
def S_indexByte : Spec
  | [.str s, .int .u8 c], [] => some (.int .i64 (Lib.indexByte s c.toNat.toUInt8), [], True)
  | _, _ => none
def S_validRune : Spec
  | [.int .i32 r], [] => some (.bool (Lib.validRune r), [], True)
  | _, _ => none
def S_indexRune : Spec
  | [.str s, .int .i32 r], [] => some (.int .i64 (idxRune s r), [], ascii s = true ∧ s.length ≤ 1000000 ∧ 0 ≤ r ∧ r ≤ 1114111)
  | _, _ => none
def S_containsRune : Spec
  | [.str s, .int .i32 r], [] => some (.bool (decide (0 ≤ idxRune s r)), [], ascii s = true ∧ s.length ≤ 1000000 ∧ 0 ≤ r ∧ r ≤ 1114111)
  | _, _ => none
def S_irState (s : List UInt8) (pos : Nat) : St := ⟨[(0, .str s), (175, .ptr 0 0)], [(0, .siter s pos)], 1, []⟩
/-- The search for U+FFFD in an ASCII string. -/
def L_irError (s : List UInt8) : LSpec := fun st Q => canonIs te 0 [0, 175] st (S_irState s 0) ∧ ascii s = true ∧ Q (.exit 9) ⟨[], [], 0, []⟩
def S_irState2 (s e : List UInt8) : St := ⟨[(0, .str s), (7, .str e), (8, .int .i64 ((e.length : Int) - 1)), (9, .int .i64 ((e.length : Int) - 1))], [], 0, []⟩
/-- The search for a rune beyond ASCII in an ASCII string. -/
def L_irMain (s e : List UInt8) : LSpec := fun st Q => canonIs te 0 [0, 7, 8, 9] st (S_irState2 s e) ∧ ascii s = true ∧ s.length ≤ 1000000 ∧ 2 ≤ e.length ∧ e.length ≤ 4 ∧ 128 ≤ (e.getD (e.length - 1) 0).toNat ∧
  Q (.exit 1) ⟨[], [], 0, []⟩ ∧ Q .ret ⟨[(4, .int .i64 (-1))], [], 0, []⟩

end Go.Eng
/- What the package product computes: plain functions. -/
namespace Go.Eng

def isDig (c : UInt8) : Bool := decide (48 ≤ c.toNat) && decide (c.toNat ≤ 57)
def digitsF (s : List UInt8) (a b : Int) : Bool := (decide ((s.length : Int) = a) || decide ((s.length : Int) = b)) && s.all isDig
def S_digits : Spec
  | [.str s, .int .i64 a, .int .i64 b], [] => some (.bool (digitsF s a b), [], a ≤ 100 ∧ b ≤ 100)
  | _, _ => none
/-- The weighted sum of the first i digits. -/
def cdSum (s : List UInt8) : Nat → Int
  | 0 => 0
  | i + 1 => cdSum s i + (1 + 2 * (((s.length : Int) - i) % 2)) * ((s.getD i 0).toNat - 48)
def cdF (s : List UInt8) : Int × Bool := match digitsF s 7 12 with
  | true => ((10 - cdSum s s.length % 10) % 10, true)
  | false => (0, false)
def S_checkDigit : Spec
  | [.str s], [] => some (.tuple [.int .i64 (cdF s).1, .bool (cdF s).2], [], True)
  | _, _ => none
def S_cd (s : List UInt8) (k : Nat) : St := ⟨[(0, .str s), (4, .int .i64 (cdSum s k)), (11, .int .i64 s.length), (12, .int .i64 k)], [], 0, []⟩
/-- The loop of CheckDigit. -/
def L_checkDigit (s : List UInt8) : LSpec := fun st Q => canonIs te 0 [0, 4, 11, 12] st (S_cd s 0) ∧ s.length ≤ 12 ∧ s.all isDig = true ∧
  Q (.exit 0) ⟨[(4, .int .i64 (cdSum s s.length))], [], 0, []⟩
def validIDF (s : List UInt8) : Bool := match digitsF s 8 13 with
  | true => decide ((cdF (s.take (s.length - 1))).1 = ((s.getD (s.length - 1) 0).toNat : Int) - 48)
  | false => false
def S_validID : Spec
  | [.str s], [] => some (.bool (validIDF s), [], True)
  | _, _ => none

theorem isDig_at {s : List UInt8} (h : s.all isDig = true) (k : Nat) (hk : k < s.length) : 48 ≤ (s.getD k 0).toNat ∧ (s.getD k 0).toNat ≤ 57 := by
  have := List.all_eq_true.1 h (s.getD k 0) (by simp [List.getD, hk])
  simpa [isDig] using this

theorem isDig_contains (b : UInt8) : ([48, 49, 50, 51, 52, 53, 54, 55, 56, 57] : List UInt8).contains b = isDig b := by
  have : ∀ n, n < 256 → ([48, 49, 50, 51, 52, 53, 54, 55, 56, 57] : List UInt8).contains (UInt8.ofNat n) = isDig (UInt8.ofNat n) := by decide +kernel
  have h := this b.toNat b.toNat_lt
  simpa using h

theorem dropWhile_nil {p : UInt8 → Bool} : ∀ {s : List UInt8}, s.dropWhile p = [] ↔ s.all p = true
  | [] => by simp
  | x :: s => by
    simp only [List.dropWhile_cons, List.all_cons]
    cases hx : p x <;> simp [dropWhile_nil]

theorem dropWhile_all {p : UInt8 → Bool} : ∀ {r : List UInt8}, (r.dropWhile p).all p = true → r.all p = true
  | [], h => h
  | x :: r, h => by
    rw [List.dropWhile_cons] at h
    cases hx : p x with
    | true =>
      rw [hx, if_pos rfl] at h
      rw [List.all_cons, hx, dropWhile_all h]; rfl
    | false => rw [hx, if_neg (by simp), List.all_cons, hx] at h; cases h

theorem all_rev {p : UInt8 → Bool} (s : List UInt8) : s.reverse.all p = s.all p := by simp

theorem trimF_nil (c s : List UInt8) : trimF c s = [] ↔ s.all (c.contains ·) = true := by
  unfold trimF dropR
  rw [dropWhile_nil, all_rev]
  constructor
  · intro h
    rw [← all_rev]
    exact dropWhile_all h
  · intro h
    rw [← all_rev] at h
    rw [dropWhile_nil.2 h]; rfl

theorem trimF_digits (s : List UInt8) : decide (trimF [48, 49, 50, 51, 52, 53, 54, 55, 56, 57] s = []) = s.all isDig := by
  have h := trimF_nil [48, 49, 50, 51, 52, 53, 54, 55, 56, 57] s
  simp only [isDig_contains] at h
  cases hb : s.all isDig with
  | true => exact decide_eq_true (h.2 hb)
  | false => exact decide_eq_false fun he => by rw [h.1 he] at hb; cases hb

end Go.Eng
/- Names of products: plain functions. -/
namespace Go.Eng

def nameAll : List UInt8 := [97, 98, 99, 100, 101, 102, 103, 104, 105, 106, 107, 108, 109, 110, 111, 112, 113, 114, 115, 116, 117, 118, 119, 120, 121, 122, 48, 49, 50, 51, 52, 53, 54, 55, 56, 57, 45, 46]
def nameFirst : List UInt8 := [97, 98, 99, 100, 101, 102, 103, 104, 105, 106, 107, 108, 109, 110, 111, 112, 113, 114, 115, 116, 117, 118, 119, 120, 121, 122, 48, 49, 50, 51, 52, 53, 54, 55, 56, 57]
def isLet (b : UInt8) : Bool := decide (97 ≤ b.toNat) && decide (b.toNat ≤ 122) || decide (48 ≤ b.toNat) && decide (b.toNat ≤ 57)
def isNB (b : UInt8) : Bool := isLet b || decide (b.toNat = 45) || decide (b.toNat = 46)
theorem nameAll_has (b : UInt8) : nameAll.contains b = isNB b := by
  have : ∀ n, n < 256 → nameAll.contains (UInt8.ofNat n) = isNB (UInt8.ofNat n) := by decide +kernel
  simpa using this b.toNat b.toNat_lt
theorem nameFirst_has (b : UInt8) : nameFirst.contains b = isLet b := by
  have : ∀ n, n < 256 → nameFirst.contains (UInt8.ofNat n) = isLet (UInt8.ofNat n) := by decide +kernel
  simpa using this b.toNat b.toNat_lt
theorem nameAll_ascii : ascii nameAll = true := by decide +kernel

theorem indexByte_iff (l : List UInt8) (c : UInt8) : 0 ≤ Lib.indexByte l c ↔ l.contains c = true := by
  induction l with
  | nil => simp [Lib.indexByte]
  | cons b l ih =>
    have hge := Lib.indexByte_ge l c
    simp only [Lib.indexByte, List.contains_cons, Bool.or_eq_true, beq_iff_eq]
    by_cases h : b = c
    · subst h; simp
    · have h' : ¬ c = b := fun e => h e.symm
      simp only [h, if_false, h', false_or, ← ih]
      split <;> omega

theorem nameRune_lo (b : UInt8) (h : b.toNat < 128) : decide (0 ≤ idxRune nameAll (b.toNat : Int)) = isNB b := by
  have e : decide ((b.toNat : Int) < 128) = true := decide_eq_true (by omega)
  simp only [idxRune, e, u8_round]
  rw [← nameAll_has]
  cases hc : nameAll.contains b with
  | true => exact decide_eq_true ((indexByte_iff _ _).2 hc)
  | false => exact decide_eq_false fun hh => by rw [(indexByte_iff _ _).1 hh] at hc; cases hc
theorem nameRune_hi (r : Nat) (h : 128 ≤ r) : decide (0 ≤ idxRune nameAll (r : Int)) = false := by
  have e : decide ((r : Int) < 128) = false := decide_eq_false (by omega)
  simp only [idxRune, e]
  rfl

def S_name1 : Spec
  | [.int .i32 r], [] => some (.bool (!decide (0 ≤ idxRune nameAll r)), [], 0 ≤ r ∧ r ≤ 1114111)
  | _, _ => none
def badAt (s : List UInt8) : Nat := s.findIdx fun b => !isNB b
def firstBad (s : List UInt8) : Int := match s.all isNB with
  | true => -1
  | false => badAt s
def S_ifState (s : List UInt8) (pos : Nat) : St := ⟨[(1, .func 38 []), (2, .bool true), (10, .ptr 0 0)], [(0, .siter s pos)], 1, []⟩
def L_indexFunc (s : List UInt8) : LSpec := fun st Q => canonIs te 0 [1, 2, 10] st (S_ifState s 0) ∧ condP (s.all isNB) (Q (.exit 0) ⟨[], [], 0, []⟩) (Q .ret ⟨[(6, .int .i64 (badAt s))], [], 0, []⟩)
def S_indexFunc : Spec
  | [.str s, .func 38 [], .bool true], [] => some (.int .i64 (firstBad s), [], True)
  | _, _ => none
def S_IndexFunc : Spec
  | [.str s, .func 38 []], [] => some (.int .i64 (firstBad s), [], True)
  | _, _ => none
def S_ContainsFunc : Spec
  | [.str s, .func 38 []], [] => some (.bool (!s.all isNB), [], True)
  | _, _ => none
def nameF (s : List UInt8) : Bool := decide (1 ≤ s.length) && decide (s.length ≤ 24) && isLet (s.getD 0 0) && s.all isNB
def S_name : Spec
  | [.str s], [] => some (.bool (nameF s), [], True)
  | _, _ => none

theorem badAt_spec {s : List UInt8} (h : s.all isNB = false) : badAt s < s.length ∧ isNB (s.getD (badAt s) 0) = false ∧ ∀ k, k < badAt s → isNB (s.getD k 0) = true := by
  have hlt : badAt s < s.length := by
    unfold badAt
    rw [List.findIdx_lt_length]
    have : ¬ ∀ x ∈ s, isNB x = true := fun hh => by rw [List.all_eq_true.2 hh] at h; cases h
    simp only [Classical.not_forall] at this
    obtain ⟨x, hx, hb⟩ := this
    exact ⟨x, hx, by simpa using hb⟩
  refine ⟨hlt, ?_, fun k hk => ?_⟩
  · have := List.findIdx_getElem (p := fun b => !isNB b) (xs := s) (w := hlt)
    have e : s.getD (badAt s) 0 = s[badAt s] := by simp [List.getD, hlt]
    rw [e]
    show isNB s[List.findIdx (fun b => !isNB b) s] = false
    simpa using this
  · have hk' : k < s.length := Nat.lt_trans hk hlt
    have := List.not_of_lt_findIdx (p := fun b => !isNB b) (xs := s) hk
    have e : s.getD k 0 = s[k] := by simp [List.getD, hk']
    rw [e]
    simpa using this

theorem trimF_first (b : UInt8) : decide (trimF [97, 98, 99, 100, 101, 102, 103, 104, 105, 106, 107, 108, 109, 110, 111, 112, 113, 114, 115, 116, 117, 118, 119, 120, 121, 122, 48, 49, 50, 51, 52, 53, 54, 55, 56, 57] [b] = []) = isLet b := by
  have h := trimF_nil nameFirst [b]
  simp only [List.all_cons, List.all_nil, Bool.and_true, nameFirst_has] at h
  cases hb : isLet b with
  | true => exact decide_eq_true (h.2 hb)
  | false => exact decide_eq_false fun he => by rw [h.1 he] at hb; cases hb

theorem firstBad_neg (s : List UInt8) : decide (0 ≤ firstBad s) = !s.all isNB := by
  unfold firstBad
  cases s.all isNB with
  | true => rfl
  | false => exact decide_eq_true (Int.natCast_nonneg _)

end Go.Eng
/- The reference of the products: plain functions. -/
namespace Go.Eng

def OKat (s : List UInt8) (k : Nat) : Prop := (97 ≤ (s.getD k 0).toNat ∧ (s.getD k 0).toNat ≤ 122) ∨ (48 ≤ (s.getD k 0).toNat ∧ (s.getD k 0).toNat ≤ 57) ∨ (k ≠ 0 ∧ ((s.getD k 0).toNat = 45 ∨ (s.getD k 0).toNat = 46))
def S_nrState (s : List UInt8) (k : Nat) : St := ⟨[(0, .str s), (6, .int .i64 s.length), (7, .int .i64 k)], [], 0, []⟩
def L_nameR (s : List UInt8) : LSpec := fun st Q => canonIs te 0 [0, 6, 7] st (S_nrState s 0) ∧ ((∀ k, k < s.length → OKat s k) → Q (.exit 0) ⟨[(0, .str s)], [], 0, []⟩) ∧ (∀ k, k < s.length → ¬ OKat s k → Q .ret ⟨[(2, .bool false)], [], 0, []⟩)

def S_nameR : Spec
  | [.str s], [] => some (.bool (nameF s), [], s.length ≤ 9223372036854775806)
  | _, _ => none

theorem nameF_iff (s : List UInt8) : nameF s = true ↔ (1 ≤ s.length ∧ s.length ≤ 24) ∧ ∀ k, k < s.length → OKat s k := by
  have hlet : ∀ b : UInt8, isLet b = true ↔ (97 ≤ b.toNat ∧ b.toNat ≤ 122) ∨ (48 ≤ b.toNat ∧ b.toNat ≤ 57) := by intro b; simp [isLet]
  have hnb : ∀ b : UInt8, isNB b = true ↔ ((97 ≤ b.toNat ∧ b.toNat ≤ 122) ∨ (48 ≤ b.toNat ∧ b.toNat ≤ 57)) ∨ b.toNat = 45 ∨ b.toNat = 46 := by
    intro b; rw [← hlet]; simp [isNB, or_assoc]
  unfold nameF
  simp only [Bool.and_eq_true, decide_eq_true_eq, hlet, List.all_eq_true, hnb]
  constructor
  · rintro ⟨⟨⟨h1, h2⟩, h3⟩, h4⟩
    refine ⟨⟨h1, h2⟩, fun k hk => ?_⟩
    have := h4 (s.getD k 0) (by simp [List.getD, hk])
    by_cases h0 : k = 0
    · subst h0; unfold OKat; omega
    · unfold OKat; omega
  · rintro ⟨⟨h1, h2⟩, h3⟩
    refine ⟨⟨⟨h1, h2⟩, ?_⟩, fun b hb => ?_⟩
    · have := h3 0 (by omega); unfold OKat at this; omega
    · obtain ⟨j, hj, rfl⟩ := List.getElem_of_mem hb
      have := h3 j hj
      have e : s.getD j 0 = s[j] := by simp [List.getD, hj]
      unfold OKat at this
      rw [e] at this
      omega

def S_cdrState (s : List UInt8) (k : Nat) : St := ⟨[(0, .str s), (4, .int .i64 (cdSum s k)), (16, .int .i64 s.length), (17, .int .i64 k)], [], 0, []⟩
def L_checkDigitR (s : List UInt8) : LSpec := fun st Q => canonIs te 0 [0, 4, 16, 17] st (S_cdrState s 0) ∧ s.length ≤ 12 ∧ condP (s.all isDig) (Q (.exit 0) ⟨[(4, .int .i64 (cdSum s s.length))], [], 0, []⟩) (Q .ret ⟨[(2, .int .i64 0), (3, .bool false)], [], 0, []⟩)

theorem cdSum_boundk {s : List UInt8} : ∀ k, k ≤ s.length → (∀ j, j < k → 48 ≤ (s.getD j 0).toNat ∧ (s.getD j 0).toNat ≤ 57) → 0 ≤ cdSum s k ∧ cdSum s k ≤ 27 * k
  | 0, _, _ => by simp [cdSum]
  | k + 1, hk, h => by
    have ih := cdSum_boundk k (by omega) fun j hj => h j (by omega)
    have hd := h k (by omega)
    simp only [cdSum]
    rcases Int.emod_two_eq (↑s.length - ↑k) with e | e <;> rw [e] <;> omega

theorem all_isDig {s : List UInt8} (h : ∀ j, j < s.length → 48 ≤ (s.getD j 0).toNat ∧ (s.getD j 0).toNat ≤ 57) : s.all isDig = true := by
  refine List.all_eq_true.2 fun b hb => ?_
  obtain ⟨j, hj, rfl⟩ := List.getElem_of_mem hb
  have := h j hj
  have e : s.getD j 0 = s[j] := by simp [List.getD, hj]
  rw [e] at this
  simp [isDig, this.1, this.2]

theorem cdF_bound (s : List UInt8) : 0 ≤ (cdF s).1 ∧ (cdF s).1 ≤ 9 := by
  unfold cdF
  split
  · show 0 ≤ (10 - cdSum s s.length % 10) % 10 ∧ (10 - cdSum s s.length % 10) % 10 ≤ 9
    omega
  · exact ⟨by decide, by decide⟩

end Go.Eng
/- Contents of packages: plain functions. -/
namespace Go.Eng

def qtyF (d c a : Int) : Int := bif decide (d < 1) then 80 else bif decide (4 < d) then 80 else bif decide (c < 1) then 81 else bif decide (100 < c) then 81 else bif decide (a < 1) then 82 else bif decide (Int.tdiv 1099511627776 c < a) then 82 else 0
def S_qty : Spec
  | [.agg [.int .i64 d, .int .i64 c, .int .i64 a]], [] => some (.int .i64 (qtyF d c a), [], True)
  | _, _ => none
theorem qty_bound {c : Int} (h1 : ¬ c < 1) (h2 : ¬ 100 < c) : c ≠ 0 ∧ inR .i64 (Int.tdiv 1099511627776 c) := by
  refine ⟨by omega, ?_⟩
  rw [Int.tdiv_eq_ediv_of_nonneg (by omega)]
  simp only [inR]
  have h3 : 0 ≤ 1099511627776 / c := Int.ediv_nonneg (by omega) (by omega)
  have h4 : 1099511627776 / c ≤ 1099511627776 := Int.ediv_le_self _ (by omega)
  omega

end Go.Eng
/- Levels of codes and the validation of products: plain functions. -/
namespace Go.Eng

def levelV (s : List UInt8) : Int := match parseOK s with
  | true => (words s).length
  | false => match decide (s = []) with
    | true => 0
    | false => -1
def S_level : Spec
  | [.str s], [] => some (.int .i64 (levelV s), [], s.length < 4294967281)
  | _, _ => none
def S_is : Spec
  | [.str s], [] => some (.bool (parseOK s), [], s.length < 4294967281)
  | _, _ => none

theorem levelV_lt (s : List UInt8) : decide (levelV s < 1) = !parseOK s := by
  unfold levelV
  cases h : parseOK s with
  | true =>
    have hn : 1 ≤ (words s).length := by rw [words_len]; omega
    have hlt : ¬ (((words s).length : Int) < 1) := by omega
    exact decide_eq_false hlt
  | false => cases decide (s = []) <;> rfl

def freshAt (nm : Nat → List UInt8) : Nat → Nat → Bool
  | 0, _ => true
  | j + 1, k => freshAt nm j k && !decide (nm k = nm j)
def atOK (nm vl : Nat → List UInt8) (k : Nat) : Bool := nameF (nm k) && nameF (vl k) && freshAt nm k k
def atsOK (nm vl : Nat → List UInt8) : Nat → Bool
  | 0 => true
  | k + 1 => atsOK nm vl k && atOK nm vl k
def valF (id code brand : List UInt8) (d c a : Int) (n : Nat) (nm vl : Nat → List UInt8) : Int :=
  bif !validIDF id then 90 else bif !parseOK code then 91 else bif !nameF brand then 92 else bif !decide (qtyF d c a = 0) then 93 else bif decide (12 < n) then 94 else bif atsOK nm vl n then 0 else 94

def nmOf (f : Nat → List AV) (i : Nat) : List UInt8 := strOf ((f i).getD 0 .any)
def vlOf (f : Nat → List AV) (i : Nat) : List UInt8 := strOf ((f i).getD 1 .any)
def atRow (nm vl : Nat → List UInt8) : Nat → List AV := fun i => [.str (nm i), .str (vl i)]
def R_val : RSpec
  | [.agg [.str id, .str code, .str brand, .int .i64 d, .int .i64 c, .int .i64 a, .nil]], [], R => code.length < 4294967281 ∧ brand.length < 4294967281 ∧ R (.int .i64 (valF id code brand d c a 0 (fun _ => []) (fun _ => []))) []
  | [.agg [.str id, .str code, .str brand, .int .i64 d, .int .i64 c, .int .i64 a, .own 0 n]], [.row t 2 m f fr], R => t = 52 ∧ fr = false ∧ n = m ∧ n ≤ 4294967281 ∧ code.length < 4294967281 ∧ brand.length < 4294967281 ∧ (∀ i, i < n → (nmOf f i).length < 4294967281 ∧ (vlOf f i).length < 4294967281) ∧ f = atRow (nmOf f) (vlOf f) ∧
      R (.int .i64 (valF id code brand d c a n (nmOf f) (vlOf f))) [(0, .row 52 2 n f false)]
  | _, _, _ => False
end Go.Eng
/- The row's arguments, read as data, told in abstract values. -/
namespace Go.Eng
open Go.Proofs Go.RowKit
variable {H : Type} {enc : TypeId × Value → H} {W : World}

noncomputable def fsOf (t : TypeId) : Array Field := match Tryd.prog.underlying t with
  | some (.struct fs) => fs
  | _ => #[]
theorem undP : Tryd.prog.underlying 26 = some (.struct (fsOf 26)) := by kernel_rfl
theorem undQ : Tryd.prog.underlying 23 = some (.struct (fsOf 23)) := by kernel_rfl
theorem undA : Tryd.prog.underlying 52 = some (.struct (fsOf 52)) := by kernel_rfl
theorem undAs : Tryd.prog.underlying 24 = some (.slice 52) := by kernel_rfl
theorem undIs : Tryd.prog.underlying 27 = some (.slice 3) := by kernel_rfl
theorem undI : Tryd.prog.underlying 3 = some (.int .i64) := by kernel_rfl
theorem undI2 : Tryd.prog.underlying 2 = some (.int .i64) := by kernel_rfl
theorem undS : Tryd.prog.underlying 9 = some .string := by kernel_rfl
theorem cP : Tryd.prog.cellsOf 26 = 7 := by kernel_rfl
theorem cQ : Tryd.prog.cellsOf 23 = 3 := by kernel_rfl
theorem cA : Tryd.prog.cellsOf 52 = 2 := by kernel_rfl
theorem cI : Tryd.prog.cellsOf 3 = 1 := by kernel_rfl
theorem cI2 : Tryd.prog.cellsOf 2 = 1 := by kernel_rfl
theorem cS : Tryd.prog.cellsOf 9 = 1 := by kernel_rfl
theorem cAs : Tryd.prog.cellsOf 24 = 1 := by kernel_rfl

/-- A field's cells, read. -/
theorem field {t : TypeId} {n : Nat} {cs : List Value} {xs : List (DataW H × List MemPlace)} {sp : Nat → Bool} {hd : Bool} (hl : xs.length = (fsOf t).size)
    (h : ∀ (i : Nat) (f : Field), (fsOf t)[i]? = some f → DataW.trod enc Tryd.prog W 0 sp hd n f.type ((cs.drop f.offset).take (Tryd.prog.cellsOf f.type)) = xs[i]?)
    (i : Nat) (ty : TypeId) (off : Nat) (hf : ((fsOf t)[i]?).map (fun f => (f.type, f.offset)) = some (ty, off)) : ∃ y, DataW.trod enc Tryd.prog W 0 sp hd n ty ((cs.drop off).take (Tryd.prog.cellsOf ty)) = some y := by
  obtain ⟨f, hf1, hf2⟩ := Option.map_eq_some_iff.1 hf
  simp only [Prod.mk.injEq] at hf2
  obtain ⟨rfl, rfl⟩ := hf2
  have hi : i < xs.length := by rw [hl]; exact (Array.getElem?_eq_some_iff.1 hf1).1
  exact ⟨xs[i], by rw [h i f hf1]; simp [hi]⟩

theorem addr_add (a : Addr) (i j : Nat) : (a.add i).add j = a.add (i + j) := by
  obtain ⟨b, o, e⟩ := a
  by_cases h1 : i = 0 <;> by_cases h2 : j = 0 <;> simp [Addr.add, h1, h2, Nat.add_assoc]
theorem add_block (a : Addr) (i : Nat) : (a.add i).block = a.block := by
  unfold Addr.add
  split <;> rfl
theorem list2 {l : List Value} (h : l.length = 2) : ∃ a b, l = [a, b] := by
  match l, h with
  | [a, b], _ => exact ⟨a, b, rfl⟩
theorem list3 {l : List Value} (h : l.length = 3) : ∃ a b c, l = [a, b, c] := by
  match l, h with
  | [a, b, c], _ => exact ⟨a, b, c, rfl⟩
theorem list7 {l : List Value} (h : l.length = 7) : ∃ a b c d e f g, l = [a, b, c, d, e, f, g] := by
  match l, h with
  | [a, b, c, d, e, f, g], _ => exact ⟨a, b, c, d, e, f, g, rfl⟩

theorem read_attr {fuel : Nat} {cs : List Value} {x : DataW H × List MemPlace} {sp : Nat → Bool} {hd : Bool} (h : DataW.trod enc Tryd.prog W 0 sp hd fuel 52 cs = some x) : ∃ s1 s2 : ByteArray, cs = [.string s1, .string s2] := by
  obtain ⟨xs, n, rfl, _, hc, hl, hf⟩ := DataW.trod_struct undA h
  rw [cA] at hc
  obtain ⟨a, b, rfl⟩ := list2 hc
  obtain ⟨y0, h0⟩ := field hl hf 0 9 0 (by kernel_rfl)
  obtain ⟨y1, h1⟩ := field hl hf 1 9 1 (by kernel_rfl)
  rw [cS] at h0 h1
  obtain ⟨s0, e0, _⟩ := DataW.trod_string undS h0
  obtain ⟨s1, e1, _⟩ := DataW.trod_string undS h1
  simp at e0 e1
  exact ⟨s0, s1, by rw [e0, e1]⟩

theorem read_ints {fuel : Nat} {cs : List Value} {x : DataW H × List MemPlace} {sp : Nat → Bool} {hd : Bool} (h : DataW.trod enc Tryd.prog W 0 sp hd fuel 27 cs = some x) :
    ∃ (A : Option Addr) (n c : Nat) (v : Nat → Int), cs = [.slice A n c] ∧ V W (fun _ => False) nob (.slice A n c) (.view 1 n (fun i => [.int .i64 (v i)])) := by
  rcases DataW.trod_slice undIs h with ⟨rfl, _⟩ | ⟨a, len, cap, elems, rest, n, _, rfl, _, hb, hl, hm, hlen, hel, _⟩
  · exact ⟨none, 0, 0, fun _ => 0, rfl, V_view _ (Nat.le_refl _) (Nat.zero_le _) (fun i hi => by omega) (.inl rfl)⟩
  · have hat : ∀ i, i < len → ∃ z, W.cell? (a.add i) = some (.int .i64 z) := by
      intro i hi
      have h1 := hel i hi
      rw [cI, Nat.mul_one, List.getElem?_eq_getElem (by omega), Option.bind_eq_some_iff] at h1
      obtain ⟨cs', hcs, hy⟩ := h1
      obtain ⟨z, rfl, _⟩ := DataW.trod_int undI hy
      obtain ⟨_, _, h2⟩ := World.cells?_some hcs
      have q0 := h2 0 (by omega)
      rw [addr_add, Nat.add_zero] at q0
      exact ⟨z, q0⟩
    refine ⟨some a, len, cap, fun i => match W.cell? (a.add i) with | some (.int .i64 z) => z | _ => 0, rfl, V_view _ hl hm (fun _ _ => rfl) ?_⟩
    by_cases h0 : len = 0
    · exact .inl h0
    · refine .inr ⟨a, rfl, ?_, fun i hi j hj => ?_⟩
      · have h1 := hel 0 (by omega)
        rw [List.getElem?_eq_getElem (show 0 < elems.length by omega), Option.bind_eq_some_iff] at h1
        obtain ⟨cs', hcs, _⟩ := h1
        rw [cI] at hcs
        have q := World.cells?_block hcs (by omega)
        rw [add_block] at q
        exact q
      · obtain rfl : j = 0 := by omega
        obtain ⟨z, hz⟩ := hat i hi
        rw [Nat.mul_one, Nat.add_zero]
        refine ⟨_, hz, rfl, fun u hu => ?_⟩
        dsimp only at hu
        rw [hz] at hu
        obtain rfl := Option.some.inj hu
        exact .int

theorem read_attrs {fuel : Nat} {cs : List Value} {x : DataW H × List MemPlace} {sp : Nat → Bool} {hd : Bool} (h : DataW.trod enc Tryd.prog W 0 sp hd fuel 24 cs = some x) :
    ∃ (A : Option Addr) (n c : Nat) (nm vl : Nat → List UInt8), cs = [.slice A n c] ∧ V W (fun _ => False) nob (.slice A n c) (.view 2 n (atRow nm vl)) := by
  rcases DataW.trod_slice undAs h with ⟨rfl, _⟩ | ⟨a, len, cap, elems, rest, n, _, rfl, _, hb, hl, hm, hlen, hel, _⟩
  · exact ⟨none, 0, 0, fun _ => [], fun _ => [], rfl, V_view _ (Nat.le_refl _) (Nat.zero_le _) (fun i hi => by omega) (.inl rfl)⟩
  · have hat : ∀ i, i < len → ∃ s1 s2 : ByteArray, W.cell? (a.add (i * 2 + 0)) = some (.string s1) ∧ W.cell? (a.add (i * 2 + 1)) = some (.string s2) := by
      intro i hi
      have h1 := hel i hi
      rw [cA, List.getElem?_eq_getElem (by omega), Option.bind_eq_some_iff] at h1
      obtain ⟨cs', hcs, hy⟩ := h1
      obtain ⟨s1, s2, rfl⟩ := read_attr hy
      obtain ⟨_, _, h2⟩ := World.cells?_some hcs
      have q0 := h2 0 (by omega)
      have q1 := h2 1 (by omega)
      rw [addr_add] at q0 q1
      exact ⟨s1, s2, q0, q1⟩
    let tx : Addr → List UInt8 := fun p => match W.cell? p with
      | some (.string s) => s.data.toList
      | _ => []
    refine ⟨some a, len, cap, fun i => tx (a.add (i * 2 + 0)), fun i => tx (a.add (i * 2 + 1)), rfl, V_view _ hl hm (fun _ _ => rfl) ?_⟩
    by_cases h0 : len = 0
    · exact .inl h0
    · refine .inr ⟨a, rfl, ?_, fun i hi j hj => ?_⟩
      · have h1 := hel 0 (by omega)
        rw [List.getElem?_eq_getElem (show 0 < elems.length by omega), Option.bind_eq_some_iff] at h1
        obtain ⟨cs', hcs, _⟩ := h1
        rw [cA] at hcs
        have q := World.cells?_block hcs (by omega)
        rw [add_block] at q
        exact q
      · obtain ⟨s1, s2, e1, e2⟩ := hat i hi
        have t1 : tx (a.add (i * 2 + 0)) = s1.data.toList := by
          show (match W.cell? (a.add (i * 2 + 0)) with | some (.string s) => s.data.toList | _ => []) = _
          rw [e1]
        have t2 : tx (a.add (i * 2 + 1)) = s2.data.toList := by
          show (match W.cell? (a.add (i * 2 + 1)) with | some (.string s) => s.data.toList | _ => []) = _
          rw [e2]
        match j with
        | 0 =>
          refine ⟨_, e1, rfl, fun u hu => ?_⟩
          have hu : some (AV.str (tx (a.add (i * 2 + 0)))) = some u := hu
          rw [t1] at hu
          obtain rfl := Option.some.inj hu
          exact .str rfl
        | 1 =>
          refine ⟨_, e2, rfl, fun u hu => ?_⟩
          have hu : some (AV.str (tx (a.add (i * 2 + 1)))) = some u := hu
          rw [t2] at hu
          obtain rfl := Option.some.inj hu
          exact .str rfl

theorem read_prod {cs : Array Value} {fuel : Nat} {x : DataW H × List MemPlace} {sp : Nat → Bool} {hd : Bool} (h : DataW.trod enc Tryd.prog W 0 sp hd fuel 26 cs.toList = some x) :
    ∃ (id code brand : List UInt8) (d c q : Int) (n : Nat) (nm vl : Nat → List UInt8), V W (fun _ => False) nob (.agg cs) (.agg [.str id, .str code, .str brand, .int .i64 d, .int .i64 c, .int .i64 q, .view 2 n (atRow nm vl)]) := by
  obtain ⟨xs, n, rfl, _, hc, hl, hf⟩ := DataW.trod_struct undP h
  rw [cP] at hc
  obtain ⟨v0, v1, v2, v3, v4, v5, v6, hcs⟩ := list7 hc
  rw [hcs] at hf
  obtain ⟨y0, h0⟩ := field hl hf 0 9 0 (by kernel_rfl)
  obtain ⟨y1, h1⟩ := field hl hf 1 9 1 (by kernel_rfl)
  obtain ⟨y2, h2⟩ := field hl hf 2 9 2 (by kernel_rfl)
  obtain ⟨y3, h3⟩ := field hl hf 3 23 3 (by kernel_rfl)
  obtain ⟨y4, h4⟩ := field hl hf 4 24 6 (by kernel_rfl)
  rw [cS] at h0 h1 h2
  rw [cQ] at h3
  rw [cAs] at h4
  obtain ⟨s0, e0, _⟩ := DataW.trod_string undS h0
  obtain ⟨s1, e1, _⟩ := DataW.trod_string undS h1
  obtain ⟨s2, e2, _⟩ := DataW.trod_string undS h2
  simp at e0 e1 e2
  obtain ⟨A, m, c, nm, vl, e6, hV⟩ := read_attrs h4
  simp at e6
  obtain ⟨xs', n', _, _, hc', hl', hf'⟩ := DataW.trod_struct undQ h3
  obtain ⟨z0, g0⟩ := field hl' hf' 0 3 0 (by kernel_rfl)
  obtain ⟨z1, g1⟩ := field hl' hf' 1 3 1 (by kernel_rfl)
  obtain ⟨z2, g2⟩ := field hl' hf' 2 2 2 (by kernel_rfl)
  rw [cI] at g0 g1
  rw [cI2] at g2
  obtain ⟨i0, k0, _⟩ := DataW.trod_int undI g0
  obtain ⟨i1, k1, _⟩ := DataW.trod_int undI g1
  obtain ⟨i2, k2, _⟩ := DataW.trod_int undI2 g2
  simp at k0 k1 k2
  subst e0 e1 e2 e6 k0 k1 k2
  refine ⟨s0.data.toList, s1.data.toList, s2.data.toList, i0, i1, i2, m, nm, vl, .agg ?_ ?_ ?_⟩
  · have : cs.size = 7 := by simpa using hc
    simpa using this
  · intro j v hv
    have hv : cs.toList[j]? = some v := by simpa using hv
    rw [hcs] at hv
    match j with
    | 0 => obtain rfl := Option.some.inj hv; rfl
    | 1 => obtain rfl := Option.some.inj hv; rfl
    | 2 => obtain rfl := Option.some.inj hv; rfl
    | 3 => obtain rfl := Option.some.inj hv; rfl
    | 4 => obtain rfl := Option.some.inj hv; rfl
    | 5 => obtain rfl := Option.some.inj hv; rfl
    | 6 => obtain rfl := Option.some.inj hv; rfl
    | j + 7 => simp at hv
  · intro j v u hv hu
    have hv : cs.toList[j]? = some v := by simpa using hv
    rw [hcs] at hv
    match j with
    | 0 => obtain rfl := Option.some.inj hv; obtain rfl := Option.some.inj hu; exact .str rfl
    | 1 => obtain rfl := Option.some.inj hv; obtain rfl := Option.some.inj hu; exact .str rfl
    | 2 => obtain rfl := Option.some.inj hv; obtain rfl := Option.some.inj hu; exact .str rfl
    | 3 => obtain rfl := Option.some.inj hv; obtain rfl := Option.some.inj hu; exact .int
    | 4 => obtain rfl := Option.some.inj hv; obtain rfl := Option.some.inj hu; exact .int
    | 5 => obtain rfl := Option.some.inj hv; obtain rfl := Option.some.inj hu; exact .int
    | 6 => obtain rfl := Option.some.inj hv; obtain rfl := Option.some.inj hu; exact hV
    | j + 7 => simp at hv
end Go.Eng
/- What the row's laid variables give the walk. -/
namespace Go.Eng
open Go.Proofs Go.RowKit
variable {H : Type} {enc : TypeId × Value → H} {W : World}

theorem trod_iface {P : Program} {w : World} {base fuel : Nat} {t : TypeId} {ms} {cs : List Value} {name : String} {d : DataW H} {p : List MemPlace} {sp : Nat → Bool} {hd : Bool} (ht : P.underlying t = some (.interface ms))
    (h : DataW.trod enc P w base sp hd fuel t cs = some (.iface name d, p)) : ∃ u v, cs = [.iface u v] := by
  cases fuel with
  | zero => simp [DataW.trod] at h
  | succ n =>
    unfold DataW.trod at h
    rw [ht] at h
    split at h <;> simp_all

theorem laid_iface {n : String} {g : Nat} {t : TypeId} {ms} {w : World} {name : String} {d : DataW Unit} {r : List (String × DataW Unit)} {ps : List MemPlace} (hg : Tryd.prog.globalNamed n = some g) (ht : (Tryd.prog.globals[g]?).map (·.type) = some t) (hu : Tryd.prog.underlying t = some (.interface ms))
    (h : DataW.LaidVars Tryd.prog w ((n, .iface name d) :: r) ps) : ∃ u v, w.cell? ⟨g, 0, none⟩ = some (.iface u v) := by
  obtain ⟨g', t', cs, fuel, p, q, hg', ht', hv, htr, _, _⟩ := h
  obtain rfl := Option.some.inj (hg.symm.trans hg')
  obtain rfl := Option.some.inj (ht.symm.trans ht')
  obtain ⟨u, v, hc⟩ := trod_iface hu htr
  have := World.var?_cell hg hv 0
  refine ⟨u, v, this.trans ?_⟩
  rw [← Array.getElem?_toList, hc]; rfl
theorem laid_tail {w : World} {x : String × DataW Unit} {r : List (String × DataW Unit)} {ps : List MemPlace} (h : DataW.LaidVars Tryd.prog w (x :: r) ps) : ∃ q, DataW.LaidVars Tryd.prog w r q := by
  obtain ⟨_, _, _, _, _, q, _, _, _, _, h, _⟩ := h
  exact ⟨q, h⟩

theorem maxLen_of {w : World} (h : w.ShapedOpen Tryd.prog) : ∃ m, w.cell? ⟨0, 0, none⟩ = some (.int .i64 m) :=
  cell_of_shapedOpen_int (t := 3) (zero := #[.int .i64 0]) h (of_decide_eq_true (by kernel_rfl)) (by kernel_rfl) rfl (by kernel_rfl) (by kernel_rfl) (by kernel_rfl)
theorem gErrS : Tryd.prog.globalNamed "strconv.ErrSyntax" = some 1 := by kernel_rfl
theorem gErrR : Tryd.prog.globalNamed "strconv.ErrRange" = some 2 := by kernel_rfl
theorem laidW_of {w : World} (hL : laidMetH Tryd.prog Go.Proofs.YtnjaabibmgdeoaaDoor.Rows.productValidRow.laid w) (hsh : w.ShapedOpen Tryd.prog) : LaidW w := by
  have h' : laidMet Tryd.prog Go.Proofs.YtnjaabibmgdeoaaDoor.Rows.productValidRow.laid w := hL
  obtain ⟨ps, h0, _⟩ := h'
  obtain ⟨_, h1⟩ := laid_tail h0
  obtain ⟨_, h2⟩ := laid_tail h1
  obtain ⟨_, h3⟩ := laid_tail h2
  obtain ⟨_, h4⟩ := laid_tail h3
  obtain ⟨_, h5⟩ := laid_tail h4
  exact ⟨maxLen_of hsh, laid_iface gErrS (t := 73) (ms := #[("Error", 135)]) (by kernel_rfl) (by kernel_rfl) h5, laid_iface gErrR (t := 73) (ms := #[("Error", 135)]) (by kernel_rfl) (by kernel_rfl) h4⟩
end Go.Eng
/- A world that meets the row's condition. -/
namespace Go.Eng
open Go.Proofs Go.RowKit

def litV : DataW Unit → Value
  | .lit (.int k n) => .int k n
  | _ => default
def flatD : DataW Unit → List (DataW Unit)
  | .agg l => l
  | x => [x]
noncomputable def low : Nat := (World.holding Tryd.prog default ⟨#[], #[], []⟩).heap.size
noncomputable def laidWorld (os : Os) : World :=
  let w0 := World.holding Tryd.prog os ⟨#[.cells #[.string ⟨#[118, 97, 108, 117, 101, 32, 111, 117, 116, 32, 111, 102, 32, 114, 97, 110, 103, 101]⟩] 119, .cells #[.string ⟨#[105, 110, 118, 97, 108, 105, 100, 32, 115, 121, 110, 116, 97, 120]⟩] 119], #[], []⟩
  let put (h : Array Obj) (g : Nat) (cs : Array Value) : Array Obj := h.modify g fun
    | .cells _ t frozen => .cells cs t frozen
    | o => o
  let h1 := put w0.heap 6 ((flatD Go.Proofs.YtnjaabibmgdeoaaDoor.Rows.laid_math_bits_deBruijn32tab).map litV).toArray
  let h2 := put h1 7 ((flatD Go.Proofs.YtnjaabibmgdeoaaDoor.Rows.laid_math_bits_deBruijn64tab).map litV).toArray
  let h3 := put h2 5 ((flatD Go.Proofs.YtnjaabibmgdeoaaDoor.Rows.laid_internal_strconv_uint64pow10).map litV).toArray
  let h4 := put h3 4 (((flatD Go.Proofs.YtnjaabibmgdeoaaDoor.Rows.laid_unicode_utf8_acceptRanges).flatMap flatD).map litV).toArray
  let h5 := put h4 3 ((flatD Go.Proofs.YtnjaabibmgdeoaaDoor.Rows.laid_unicode_utf8_first).map litV).toArray
  let h6 := put h5 2 #[.iface 117 (.pointer (some ⟨low, 0, none⟩))]
  let h7 := put h6 1 #[.iface 117 (.pointer (some ⟨low + 1, 0, none⟩))]
  { w0 with heap := h7 }
theorem laid_met (os : Os) (args : Array Value) : laidMet Tryd.prog Go.Proofs.YtnjaabibmgdeoaaDoor.Rows.productValidRow.laid ((laidWorld os).forCall (fun _ _ => 0) ⟨#[], args, []⟩).memory :=
  laidMet_of_run3 8 (by kernel_rfl) (by kernel_rfl) (by kernel_rfl)
end Go.Eng
/- What all rows share: the context of the engine at this program. -/
namespace Go.Eng
open Go.Proofs Go.RowKit Go.ChangeShapes Go.WideShapes Go.ChangeAt

theorem mixedOK : Tryd.prog.follows .mixedOrders = true := by kernel_rfl
theorem keepOK (w w' : World) (h : ∀ b, b < max (max 0 1) 2 + 1 → w'.heap[b]? = w.heap[b]?) (hl : LaidW w) : LaidW w' := by
  have k : ∀ g : Nat, g < max (max 0 1) 2 + 1 → w'.cell? ⟨g, 0, none⟩ = w.cell? ⟨g, 0, none⟩ := fun g hg => World.cell?_of_block (w := w) (h g hg)
  obtain ⟨h1, h2, h3⟩ := hl
  exact ⟨by rw [k _ (by decide)]; exact h1, by rw [k _ (by decide)]; exact h2, by rw [k _ (by decide)]; exact h3⟩
noncomputable def cx : Ctx := ⟨Tryd.prog, max (max 0 1) 2 + 1, LaidW, mixedOK, keepOK⟩
theorem cell_in {w : World} {g : Nat} {v : Value} (h : w.cell? ⟨g, 0, none⟩ = some v) : g < w.heap.size := by
  have hc : w.cells? 0 ⟨g, 0, none⟩ 1 = some [v] := Go.ChangeShapes.cells?_of (by omega) rfl (fun i hi => by
    obtain rfl : i = 0 := by omega
    exact h)
  exact World.cells?_block hc (by omega)
theorem gsz_le {w : World} (h : LaidW w) : cx.gsz ≤ w.heap.size := by
  obtain ⟨⟨_, h1⟩, ⟨_, _, h2⟩, ⟨_, _, h3⟩⟩ := h
  have a := cell_in h1
  have b := cell_in h2
  have c := cell_in h3
  show max (max _ _) _ + 1 ≤ _
  omega
theorem ownK : ownKnob Tryd.prog.godebug = none := by kernel_rfl
theorem laidOut : laidOutB Tryd.prog = true := by kernel_rfl
end Go.Eng
/- A nil slice in a cell as an own row of no element. -/
namespace Go.Eng

def isNilAt (cs : List AV) (j : Nat) : Bool := match cs[j]? with
  | some .nil => true
  | _ => false
def ownNilC (r j t sz : Nat) (s : St) : St := match lk s.O r with
  | some (.cells cs ct) => match isNilAt cs j with
    | true => ⟨s.T, (s.nx, .row t sz 0 (fun _ => []) false) :: (r, .cells (cs.set j (.own s.nx 0)) ct) :: rm r s.O, s.nx + 1, []⟩
    | false => s
  | _ => s

theorem RepS.ownNilC {C : Ctx} {E : Ent} {N : Nat} {s : St} {bs : Nat → Option Hd} {a : Act} {w : World} (r0 j0 t sz : Nat) (h : RepS C E N s bs a w) : ∃ bs', RepS C E N (ownNilC r0 j0 t sz s) bs' a w := by
  unfold Eng.ownNilC
  split
  · rename_i cs ct hd
    split
    · rename_i hnil
      have hnil : cs[j0]? = some .nil := by
        unfold isNilAt at hnil
        split at hnil
        · assumption
        · cases hnil
      obtain ⟨T, O, nx, dec⟩ := s
      obtain ⟨⟨hF, hW⟩, hnx, hm⟩ := h
      have hn := hnx nx (Nat.le_refl _)
      have hb0 : bs nx = none := hn.2
      have hO0 : lk O nx = none := hn.1
      have hd : lk O r0 = some (.cells cs ct) := hd
      have hne0 : r0 ≠ nx := fun e => by subst e; rw [hO0] at hd; cases hd
      let bs' := up bs nx .nil
      let O' : List (Nat × AObj) := (nx, AObj.row t sz 0 (fun _ => []) false) :: (r0, .cells (cs.set j0 (.own nx 0)) ct) :: rm r0 O
      have hbs : ∀ r x, bs r = some x → bs' r = some x := fun r x hx => by
        have : nx ≠ r := fun e => by subst e; rw [hb0] at hx; cases hx
        show up bs nx .nil r = some x
        rw [up_other _ _ _ this]; exact hx
      have hbk : ∀ r b c, bs' r = some (.blk b c) → bs r = some (.blk b c) := fun r b c hx => by
        by_cases hr : nx = r
        · subst hr
          have : up bs nx .nil nx = some (.blk b c) := hx
          rw [up_same] at this; cases this
        · have : up bs nx .nil r = some (.blk b c) := hx
          rwa [up_other _ _ _ hr] at this
      have hlk : ∀ r o, lk O' r = some o → (r = nx ∧ o = .row t sz 0 (fun _ => []) false) ∨ (r ≠ nx ∧ r = r0 ∧ o = .cells (cs.set j0 (.own nx 0)) ct) ∨ (r ≠ nx ∧ lk O r = some o) := fun r o ho => by
        have ho : lk ((nx, AObj.row t sz 0 (fun _ => []) false) :: (r0, .cells (cs.set j0 (.own nx 0)) ct) :: rm r0 O) r = some o := ho
        rw [lk_cons] at ho
        split at ho
        · rename_i e
          have e' : nx = r := e
          simp only [Option.some.injEq] at ho
          exact .inl ⟨e'.symm, ho.symm⟩
        · rename_i e
          rw [lk_rm, lk_cons] at ho
          split at ho
          · rename_i e2
            have e2' : r0 = r := e2
            simp only [Option.some.injEq] at ho
            exact .inr (.inl ⟨fun e' => e e'.symm, e2'.symm, ho.symm⟩)
          · exact .inr (.inr ⟨fun e' => e e'.symm, ho⟩)
      have hold : ∀ r o, lk O' r = some o → r ≠ nx → ∃ o', lk O r = some o' ∧ o'.mut = o.mut := fun r o ho hr => by
        rcases hlk r o ho with ⟨h1, _⟩ | ⟨_, rfl, rfl⟩ | ⟨_, h2⟩
        · exact absurd h1 hr
        · exact ⟨_, hd, rfl⟩
        · exact ⟨_, h2, rfl⟩
      have hmb : ∀ b, mutB (lk O') bs' b → mutB (lk O) bs b := by
        rintro b ⟨r, o, c, ho, hmu, hb⟩
        have hr : r ≠ nx := fun e => by
          subst e
          have := hbk _ _ _ hb
          rw [hb0] at this; cases this
        obtain ⟨o', h1, h2⟩ := hold r o ho hr
        exact ⟨r, o', c, h1, h2.trans hmu, hbk _ _ _ hb⟩
      have hMB : ∀ b, MB E (lk O') bs' b → MB E (lk O) bs b := fun b hb => hb.imp id (hmb b)
      have vm : ∀ {v : Value} {u : AV}, V w (MB E (lk O) bs) bs v u → V w (MB E (lk O') bs') bs' v u := fun h =>
        h.step_ (fun b _ hb hb' => hb (hMB b hb')) (fun _ _ _ => rfl) (Nat.le_refl _) _ hbs
      have hS : Step w (MB E (lk O) bs) bs w (MB E (lk O') bs') bs' := ⟨hbs, fun b _ hb hb' => hb (hMB b hb'), fun _ _ _ => rfl, Nat.le_refl _⟩
      refine ⟨bs', ⟨⟨hF.1, hF.2.1, fun i u hu => ?_⟩, ?_⟩, fun r hr => ?_, Nat.le_succ_of_le hm⟩
      · obtain ⟨v, hv, hV⟩ := hF.2.2 i u hu
        exact ⟨v, hv, vm hV⟩
      · exact {
          obj := fun r o ho => by
            rcases hlk r o ho with ⟨rfl, rfl⟩ | ⟨hne, rfl, rfl⟩ | ⟨hne, ho⟩
            · exact .inl ⟨up_same _ _ _, rfl⟩
            · obtain ⟨b, c, vs, q1, q2, q3, q4, q5⟩ := hW.obj r _ hd
              refine ⟨b, c, vs, hbs _ _ q1, q2, by rw [List.length_set]; exact q3, q4, fun j v u hv hu => ?_⟩
              by_cases hj : j0 = j
              · subst hj
                have hlt : j0 < cs.length := by
                  rcases Nat.lt_or_ge j0 cs.length with h | h
                  · exact h
                  · rw [List.getElem?_eq_none h] at hnil; cases hnil
                rw [List.getElem?_set_self hlt] at hu
                obtain rfl := Option.some.inj hu
                have hV := q5 j0 v _ hv hnil
                cases hV
                exact .ownnil (up_same _ _ _) rfl
              · rw [List.getElem?_set_ne hj] at hu
                exact vm (q5 j v u hv hu)
            · exact (hW.obj r o ho).step hS fun _ _ _ => rfl
          sep := fun r r' o1 o2 b c c' h1 h2 m1 m2 b1 b2 => by
            have hr : r ≠ nx := fun e => by
              subst e
              have := hbk _ _ _ b1
              rw [hb0] at this; cases this
            have hr' : r' ≠ nx := fun e => by
              subst e
              have := hbk _ _ _ b2
              rw [hb0] at this; cases this
            obtain ⟨o1', p1, p2⟩ := hold r o1 h1 hr
            obtain ⟨o2', p3, p4⟩ := hold r' o2 h2 hr'
            exact hW.sep r r' o1' o2' b c c' p1 p3 (p2.trans m1) (p4.trans m2) (hbk _ _ _ b1) (hbk _ _ _ b2)
          out := fun b hb => hW.out b (hmb b hb)
          frz := fun r t' sz' n f b c ho hb hM => by
            rcases hlk r _ ho with ⟨rfl, h⟩ | ⟨hne, rfl, h⟩ | ⟨hne, ho⟩
            · cases h
            · cases h
            · exact hW.frz r t' sz' n f b c ho (hbk _ _ _ hb) (hMB b hM)
          high := fun b hb => hW.high b (hMB b hb)
          lt := fun r b c hb => hW.lt r b c (hbk _ _ _ hb)
          outlt := hW.outlt
          keep := hW.keep
          old := fun b hb => hW.old b (hmb b hb)
          size := hW.size
          pre := fun r x hr hb => hbs r x (hW.pre r x hr hb)
          os := hW.os
          tape := hW.tape
          output := hW.output
          laid := hW.laid
          gle := hW.gle }
      · have hr' : nx + 1 ≤ r := hr
        obtain ⟨q1, q2⟩ := hnx r (show nx ≤ r by omega)
        refine ⟨?_, ?_⟩
        · show lk O' r = none
          cases ho : lk O' r with
          | none => rfl
          | some o =>
            obtain ⟨o', p1, _⟩ := hold r o ho (by omega)
            rw [q1] at p1; cases p1
        · show up bs nx .nil r = none
          rw [up_other _ _ _ (by omega)]; exact q2
    · exact ⟨bs, h⟩
  · exact ⟨bs, h⟩

theorem AWP.ownNilC {C : Ctx} {m N : Nat} {c : Code} {Q : Exit → St → Prop} {s : St} (r j t sz : Nat) (h : AWP C m N c Q (Eng.ownNilC r j t sz s)) : AWP C m N c Q s := by
  intro E hE bs a w hr
  obtain ⟨bs', hr'⟩ := hr.ownNilC r j t sz
  exact h E hE bs' a w hr'

theorem rowsEqR : ∀ O : List (Nat × AObj), RowsEq O O
  | [] => trivial
  | (r, o) :: l => by
    have ih := rowsEqR l
    cases o
    case row => exact ⟨⟨rfl, rfl, rfl, rfl, rfl, fun _ _ => rfl⟩, ih⟩
    all_goals exact ⟨rfl, ih⟩

/-- The nil slice in the cell j behind the pointer in slot d. -/
def ownNilP (d j t sz : Nat) (s : St) : St := match lk s.T d with
  | some (.ptr r i) => Eng.ownNilC r (i + j) t sz s
  | _ => s
theorem AWP.ownNilP {C : Ctx} {m N : Nat} {c : Code} {Q : Exit → St → Prop} {s : St} (d j t sz : Nat) (h : AWP C m N c Q (Eng.ownNilP d j t sz s)) : AWP C m N c Q s := by
  unfold Eng.ownNilP at h
  split at h
  · exact AWP.ownNilC _ _ t sz h
  · exact h

end Go.Eng
/- The rows' products cut short: the loop's states. -/
namespace Go.Eng

def t30 (nm : Nat → List UInt8) (i : Nat) : List UInt8 := (nm i).take 30
/-- The loop of raw; F: the view's elements; the cells of the product in the making. -/
def S_raw (id code brand : List UInt8) (d c a : Int) (n : Nat) (nm vl : Nat → List UInt8) (k : Nat) : St := ⟨[(2, .ptr 0 0), (3, .ptr 1 0), (36, .view 2 n (atRow nm vl)), (37, .int .i64 n), (38, .int .i64 k)],
  [(0, .cells [.str [], .str [], .str [], .int .i64 0, .int .i64 0, .int .i64 0, .nil] 26), (1, .cells [.str id, .str code, .str brand, .int .i64 d, .int .i64 c, .int .i64 a, .own 2 k] 26), (2, .row 52 2 k (atRow (t30 nm) (t30 vl)) false)], 3, []⟩
def L_raw (id code brand : List UInt8) (d c a : Int) (n : Nat) (nm vl : Nat → List UInt8) : LSpec := fun st Q => canonIs te 0 [2, 3, 36, 37, 38] (ownNilP 3 6 52 2 st) (S_raw id code brand d c a n nm vl 0) ∧ n ≤ 14 ∧
  Q (.exit 0) ⟨[(2, .ptr 0 0), (3, .ptr 1 0)], [(0, .cells [.str [], .str [], .str [], .int .i64 0, .int .i64 0, .int .i64 0, .nil] 26), (1, .cells [.str id, .str code, .str brand, .int .i64 d, .int .i64 c, .int .i64 a, .own 2 n] 26), (2, .row 52 2 n (atRow (t30 nm) (t30 vl)) false)], 3, []⟩

theorem take_m (s : List UInt8) (k : Int) : s.take (Int.toNat (min (s.length : Int) k)) = s.take k.toNat := by
  rcases Int.le_total (s.length : Int) k with h | h
  · rw [Int.min_eq_left h, Int.toNat_natCast, List.take_length, List.take_of_length_le (by omega)]
  · rw [Int.min_eq_right h]
/-- Cut short: what raw answers. -/
def R_raw : RSpec
  | [.agg [.str id, .str code, .str brand, .int .i64 d, .int .i64 c, .int .i64 a, .nil]], [], R => R (.agg [.str (id.take 20), .str (code.take 20), .str (brand.take 30), .int .i64 d, .int .i64 c, .int .i64 a, .nil]) []
  | [.agg [.str id, .str code, .str brand, .int .i64 d, .int .i64 c, .int .i64 a, .view sz n f]], [], R => sz = 2 ∧ f = atRow (nmOf f) (vlOf f) ∧
      R (.agg [.str (id.take 20), .str (code.take 20), .str (brand.take 30), .int .i64 d, .int .i64 c, .int .i64 a, .own 0 (min n 14)]) [(0, .row 52 2 (min n 14) (atRow (t30 (nmOf f)) (t30 (vlOf f))) false)]
  | _, _, _ => False
end Go.Eng
/- The tape: what its methods answer. -/
namespace Go.Eng

def foldV (n k : Int) : Int := n % 18446744073709551616 % k
def S_fold : Spec
  | [.int .i64 n, .int .i64 k], [] => some (.int .i64 (foldV n k), [], 1 ≤ k ∧ k ≤ 1000000)
  | _, _ => none
def nextV (n : Nat) (v : Nat → Int) (a k : Int) : Int := foldV (bif decide (a < n) then v a.toNat else 0) k
/-- Next: a number below k; the tape moves on. -/
def S_next : Spec
  | [.ptr 0 0, .int .i64 k], [.cells [.view sz n f, .int .i64 a] t] => some (.int .i64 (nextV n (vInt f) a k), [(0, .cells [.view 1 n f, .int .i64 (a + 1)] 31)], t = 31 ∧ sz = 1 ∧ f = intRow (vInt f) ∧ (1 ≤ k ∧ k ≤ 1000000) ∧ (0 ≤ a ∧ a ≤ 4611686018427387904))
  | _, _ => none
/-- ID: seven digits and the check digit. -/
def pw (V j : Nat) : Nat := V / 10 ^ j
def dgI (V k : Nat) : Int := 48 + ((V / 10 ^ (6 - k) % 10 : Nat) : Int)
def idRow (V : Nat) (k : Nat) : List AV := [.int .u8 (dgI V k)]
def idV (n : Int) : Nat := 1000000 + (foldV n 1000000).toNat
def id7 (n : Int) : List UInt8 := bytesA 7 (idRow (idV n))
def idF (n : Int) : List UInt8 := id7 n ++ [UInt8.ofNat (48 + (cdF (id7 n)).1).toNat]
def S_id : Spec
  | [.int .i64 n], [] => some (.str (idF n), [], True)
  | _, _ => none
def S_idl (V : Nat) (j : Nat) : St := ⟨[(3, .int .i64 (pw V j : Nat)), (4, .own 0 7), (5, .int .i64 (6 - (j : Int)))], [(0, .row 5 1 7 (fun k => [.int .u8 (bif decide (7 ≤ k + j) then dgI V k else 0)]) false)], 1, []⟩
def L_id (V : Nat) : LSpec := fun st Q => canonIs te 0 [3, 4, 5] st (S_idl V 0) ∧ V < 2000000 ∧
  Q (.exit 0) ⟨[(4, .own 0 7)], [(0, .row 5 1 7 (idRow V) false)], 1, []⟩

theorem foldV_range {k : Int} (h : 1 ≤ k) (n : Int) : 0 ≤ foldV n k ∧ foldV n k < k := by
  unfold foldV
  exact ⟨Int.emod_nonneg _ (by omega), Int.emod_lt_of_pos _ (by omega)⟩
theorem nextV_range {k : Int} (h : 1 ≤ k) (n : Nat) (v : Nat → Int) (a : Int) : 0 ≤ nextV n v a k ∧ nextV n v a k < k := foldV_range h _
theorem cdF_range (s : List UInt8) : 0 ≤ (cdF s).1 ∧ (cdF s).1 ≤ 9 := by
  unfold cdF
  split
  · show 0 ≤ (10 - cdSum s s.length % 10) % 10 ∧ (10 - cdSum s s.length % 10) % 10 ≤ 9
    omega
  · exact ⟨by decide, by decide⟩
theorem id7_len (n : Int) : (id7 n).length = 7 := by simp [id7, bytesA]
theorem idF_len (n : Int) : (idF n).length = 8 := by rw [idF, List.length_append, id7_len]; rfl
theorem dgI_range (V k : Nat) : 48 ≤ dgI V k ∧ dgI V k ≤ 57 := by
  unfold dgI
  have := Nat.mod_lt (V / 10 ^ (6 - k)) (show 0 < 10 by omega)
  omega
end Go.Eng
/- Products from a tape. -/
namespace Go.Eng

/-- Item: some product of two attributes, all its texts short. -/
def R_item : RSpec
  | [.ptr 0 0, .int .i64 k], [.cells [.view sz n f, .int .i64 a] t], R => t = 31 ∧ sz = 1 ∧ f = intRow (vInt f) ∧ (0 ≤ a ∧ a ≤ 4611686018427387000) ∧
      ∀ (id code brand : List UInt8) (d c q : Int) (nm vl : Nat → List UInt8) (a' : Int), id.length ≤ 30 → code.length ≤ 30 → brand.length ≤ 30 → (∀ i, i < 2 → (nm i).length ≤ 30 ∧ (vl i).length ≤ 30) → a' = a + 5 → id = idF k → valF id code brand d c q 2 nm vl = 0 →
      R (.agg [.str id, .str code, .str brand, .int .i64 d, .int .i64 c, .int .i64 q, .own 1 2]) [(0, .cells [.view 1 n f, .int .i64 a'] 31), (1, .row 52 2 2 (atRow nm vl) false)]
  | _, _, _ => False
def pick2 (x y : List UInt8) : Nat → List UInt8
  | 0 => x
  | _ + 1 => y
theorem getD_le {k : Nat} : ∀ {l : List (List UInt8)} (i : Nat), (l.all fun s => Nat.ble s.length k) = true → (l.getD i []).length ≤ k
  | [], i, _ => by simp
  | s :: l, 0, h => by
    simp only [List.all_cons, Bool.and_eq_true] at h
    exact Nat.le_of_ble_eq_true h.1
  | s :: l, i + 1, h => by
    simp only [List.all_cons, Bool.and_eq_true] at h
    exact getD_le i h.2
theorem u8_to {n : Int} (h0 : 0 ≤ n) (h1 : n < 256) : ((UInt8.ofNat n.toNat).toNat : Int) = n := by
  rw [UInt8.toNat_ofNat']
  have : n.toNat % 2 ^ 8 = n.toNat := Nat.mod_eq_of_lt (by omega)
  omega
theorem id7_dig (n : Int) : (id7 n).all isDig = true := by
  unfold id7 bytesA
  rw [List.all_map, List.all_eq_true]
  intro k _
  have h := dgI_range (idV n) k
  have e := u8_to (n := dgI (idV n) k) (by omega) (by omega)
  show isDig (UInt8.ofNat (dgI (idV n) k).toNat) = true
  unfold isDig
  rw [Bool.and_eq_true, decide_eq_true_eq, decide_eq_true_eq]
  omega
theorem idF_valid (n : Int) : validIDF (idF n) = true := by
  have hc := cdF_range (id7 n)
  have e := u8_to (n := 48 + (cdF (id7 n)).1) (by omega) (by omega)
  have hd : digitsF (idF n) 8 13 = true := by
    unfold digitsF
    rw [idF_len, Bool.and_eq_true]
    refine ⟨rfl, ?_⟩
    unfold idF
    rw [List.all_append, id7_dig, List.all_cons]
    unfold isDig
    rw [Bool.true_and, List.all_nil, Bool.and_true, Bool.and_eq_true, decide_eq_true_eq, decide_eq_true_eq]
    omega
  have ht : (idF n).take 7 = id7 n := by unfold idF; rw [← id7_len n]; exact List.take_left
  have hg : (idF n).getD 7 0 = UInt8.ofNat (48 + (cdF (id7 n)).1).toNat := by
    unfold idF
    rw [List.getD_eq_getElem?_getD, List.getElem?_append_right (by rw [id7_len]; exact Nat.le_refl _), id7_len]
    rfl
  unfold validIDF
  rw [hd, idF_len]
  show decide ((cdF ((idF n).take 7)).1 = (((idF n).getD 7 0).toNat : Int) - 48) = true
  rw [ht, hg, e, decide_eq_true_eq]
  omega
theorem item_ats : ∀ i, i < 3 → ∀ j, j < 4 → atsOK (pick2 [99, 111, 108, 111, 117, 114] [112, 111, 119, 101, 114]) (pick2 (List.getD [[114, 101, 100], [98, 108, 117, 101], [103, 114, 101, 101, 110]] i []) (List.getD [[49], [50], [50, 46, 53], [52]] j [])) 2 = true ∧
    atsOK (pick2 [112, 111, 119, 101, 114] [99, 111, 108, 111, 117, 114]) (pick2 (List.getD [[49], [50], [50, 46, 53], [52]] j []) (List.getD [[114, 101, 100], [98, 108, 117, 101], [103, 114, 101, 101, 110]] i [])) 2 = true := by decide +kernel
theorem item_code : ∀ i, i < 2 → parseOK (List.getD [[48, 49, 46, 49], [48, 49, 46, 50]] i []) = true := by decide +kernel
theorem item_qty {w : Int} (h0 : 0 ≤ w) (h1 : w < 4) : qtyF 1 1 (400000 + 50000 * w) = 0 := by
  have : w = 0 ∨ w = 1 ∨ w = 2 ∨ w = 3 := by omega
  rcases this with rfl | rfl | rfl | rfl <;> rfl
theorem item_val (k q : Int) (c0 : Nat) (x1 y1 x2 y2 : List UInt8) (hc : c0 < 2) (hq : qtyF 1 1 q = 0) (ha : atsOK (pick2 x1 x2) (pick2 y1 y2) 2 = true) :
    valF (idF k) (List.getD [[48, 49, 46, 49], [48, 49, 46, 50]] c0 []) [97, 99, 109, 101] 1 1 q 2 (pick2 x1 x2) (pick2 y1 y2) = 0 := by
  unfold valF
  rw [idF_valid, item_code c0 hc, hq, ha]
  rfl
end Go.Eng
/- A product with one fault: the loop's states. -/
namespace Go.Eng

def alpha : List UInt8 := [97, 98, 99, 100, 101, 102, 103, 104, 105, 106, 107, 108, 109, 110, 111, 112, 113, 114, 115, 116, 117, 118, 119, 120, 121, 122]
def nmX (nm : Nat → List UInt8) (i : Nat) : List UInt8 := bif decide (i < 2) then nm i else (alpha.take i).drop (i - 2)
def vlX (vl : Nat → List UInt8) (i : Nat) : List UInt8 := bif decide (i < 2) then vl i else [118]
def S_sp (al id code brand : List UInt8) (d c q : Int) (nm vl : Nat → List UInt8) (n : Nat) (f : Nat → List AV) (a N : Int) (k : Nat) : St := ⟨[(0, .ptr 0 0), (2, .ptr 1 0), (3, .ptr 2 0), (4, .str al), (88, .int .i64 N), (89, .int .i64 k)],
  [(0, .cells [.view 1 n f, .int .i64 a] 31), (1, .cells [.str [], .str [], .str [], .int .i64 0, .int .i64 0, .int .i64 0, .nil] 26), (2, .cells [.str id, .str code, .str brand, .int .i64 d, .int .i64 c, .int .i64 q, .own 3 (2 + k)] 26), (3, .row 52 2 (2 + k) (atRow (nmX nm) (vlX vl)) false)], 4, []⟩
def L_sp : LSpec := fun st Q => ∃ (id code brand : List UInt8) (d c q : Int) (nm vl : Nat → List UInt8) (n : Nat) (v : Nat → Int) (a N : Int),
  canonIs te 1 [0, 2, 3, 4, 88, 89] st (S_sp alpha id code brand d c q nm vl n (intRow v) a N 0) ∧ (0 ≤ N ∧ N ≤ 12) ∧
  Q (.exit 1) ⟨[(0, .ptr 0 0), (2, .ptr 1 0), (3, .ptr 2 0)], [(0, .cells [.view 1 n (intRow v), .int .i64 a] 31), (1, .cells [.str [], .str [], .str [], .int .i64 0, .int .i64 0, .int .i64 0, .nil] 26), (2, .cells [.str id, .str code, .str brand, .int .i64 d, .int .i64 c, .int .i64 q, .own 3 (2 + N.toNat)] 26), (3, .row 52 2 (2 + N.toNat) (atRow (nmX nm) (vlX vl)) false)], 4, []⟩
/-- Some product; the tape somewhere. -/
def R_spoiled : RSpec
  | [.ptr 0 0], [.cells [.view sz n f, .int .i64 a] t], R => t = 31 ∧ sz = 1 ∧ f = intRow (vInt f) ∧ (0 ≤ a ∧ a ≤ 4611686018427380000) ∧
      ∀ (id code brand : List UInt8) (d c q : Int) (k : Nat) (nm vl : Nat → List UInt8) (a' : Int), id.length ≤ 30 → code.length ≤ 30 → brand.length ≤ 30 → (2 ≤ k ∧ k ≤ 14) → (∀ i, i < k → (nm i).length ≤ 30 ∧ (vl i).length ≤ 30) →
      R (.agg [.str id, .str code, .str brand, .int .i64 d, .int .i64 c, .int .i64 q, .own 1 k]) [(0, .cells [.view 1 n f, .int .i64 a'] 31), (1, .row 52 2 k (atRow nm vl) false)]
  | _, _, _ => False
theorem row_ite (r : Nat) (X Y : List UInt8) (nm vl : Nat → List UInt8) (i : Nat) : (if i = r then [AV.str X, .str Y] else atRow nm vl i) = atRow (fun j => if j = r then X else nm j) (fun j => if j = r then Y else vl j) i := by
  by_cases h : i = r <;> simp [h, atRow]
end Go.Eng
