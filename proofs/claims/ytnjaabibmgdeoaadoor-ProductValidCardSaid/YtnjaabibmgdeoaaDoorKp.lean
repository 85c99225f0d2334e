/- Lemmas that the tied card of ProductValid is proved by. -/
import Derived.Test.YtnjaabibmgdeoaaDoorKm
import Derived.Lib.AtoiAll
import Derived.Lib.ItoaNum
import Derived.Lib.Split
import Derived.Lib.CountLaws
/- Codes of classifications: plain functions. -/
namespace Go.Eng

def vInt (f : Nat → List AV) (i : Nat) : Int := intOf ((f i).headD .any)
def intRow (v : Nat → Int) : Nat → List AV := fun i => [.int .i64 (v i)]
def minV (v : Nat → Int) : Nat → Int
  | 0 => v 0
  | k + 1 => min (minV v k) (v (k + 1))
def maxV (v : Nat → Int) : Nat → Int
  | 0 => v 0
  | k + 1 => max (maxV v k) (v (k + 1))
def S_min : Spec
  | [.own 0 n], [.row t 1 m f fr] => some (.int .i64 (minV (vInt f) (n - 1)), [(0, .row t 1 m f fr)], t = 3 ∧ fr = false ∧ 1 ≤ n ∧ n = m ∧ n ≤ 4611686018427387904 ∧ f = intRow (vInt f))
  | _, _ => none
def S_max : Spec
  | [.own 0 n], [.row t 1 m f fr] => some (.int .i64 (maxV (vInt f) (n - 1)), [(0, .row t 1 m f fr)], t = 3 ∧ fr = false ∧ 1 ≤ n ∧ n = m ∧ n ≤ 4611686018427387904 ∧ f = intRow (vInt f))
  | _, _ => none
def S_mmState (n : Nat) (v g : Nat → Int) (k : Nat) : St := ⟨[(0, .own 0 n), (3, .int .i64 (g k)), (4, .int .i64 ((k : Int) + 1))], [(0, .row 3 1 n (fun i => [.int .i64 (v i)]) false)], 1, []⟩
def L_mm (n : Nat) (v g : Nat → Int) : LSpec := fun st Q => canonIs te 1 [0, 3, 4] st (S_mmState n v g 0) ∧ 1 ≤ n ∧ n ≤ 4611686018427387904 ∧ Q (.exit 0) ⟨[(3, .int .i64 (g (n - 1)))], [(0, .row 3 1 n (fun i => [.int .i64 (v i)]) false)], 1, []⟩

theorem rowsEq1 {r : Nat} {t : TypeId} {sz n : Nat} {f : Nat → List AV} {fr : Bool} : RowsEq [(r, .row t sz n f fr)] [(r, .row t sz n f fr)] := ⟨⟨rfl, rfl, rfl, rfl, rfl, fun _ _ => rfl⟩, trivial⟩

def decF (n : Int) : List UInt8 := Lib.decDigits n.toNat
def S_itoa : Spec
  | [.int .i64 n], [] => some (.str (decF n), [], 0 ≤ n ∧ n < 100)
  | _, _ => none
def atoiZ (l : List UInt8) : Int := match Lib.atoiAll l with
  | .ok v => v
  | .range => Lib.atoiSat l
  | _ => 0
def S_atoi : Spec
  | [.str s], [] => some (.tuple [.int .i64 (atoiZ s), .any], [], s.length ≤ 281474976710656)
  | _, _ => none
def words (s : List UInt8) : List (List UInt8) := Lib.split s [46]
def S_split : Spec
  | [.str s, .str sep], [] => some (.view 1 (words s).length (fun i => [.str ((words s).getD i [])]), [], s.length < 4294967281 ∧ sep = [46])
  | _, _ => none

def fmtRest (v : Nat → Int) : Nat → List UInt8
  | 0 => []
  | k + 1 => fmtRest v k ++ (46 :: decF (v (k + 1)))
def fmtHead (a : Int) : List UInt8 := match decide (a < 10) with
  | true => 48 :: decF a
  | false => decF a
def fmtZ (n : Nat) (v : Nat → Int) : List UInt8 := fmtHead (v 0) ++ fmtRest v (n - 1)
def fmtOK (n : Nat) (v : Nat → Int) : Bool := decide (1 ≤ n) && decide (n ≤ 5) && decide (1 ≤ minV v (n - 1)) && decide (maxV v (n - 1) ≤ 99)
def S_format : Spec
  | [.own 0 n], [.row t 1 m f fr] => some (.tuple [.str (bif fmtOK n (vInt f) then fmtZ n (vInt f) else []), .int .i64 (bif fmtOK n (vInt f) then 0 else 64)], [(0, .row t 1 m f fr)], t = 3 ∧ fr = false ∧ n = m ∧ n ≤ 4611686018427387904 ∧ f = intRow (vInt f))
  | _, _ => none
def S_fmtState (n : Nat) (v : Nat → Int) (k : Nat) : St := ⟨[(4, .str (fmtHead (v 0) ++ fmtRest v k)), (36, .sub 0 1 1 (n - 1)), (37, .int .i64 (n - 1 : Nat)), (38, .int .i64 k)], [(0, .row 3 1 n (fun i => [.int .i64 (v i)]) false)], 1, []⟩
def L_fmt (n : Nat) (v : Nat → Int) : LSpec := fun st Q => canonIs te 1 [4, 36, 37, 38] st (S_fmtState n v 0) ∧ fmtOK n v = true ∧ Q (.exit 0) ⟨[(4, .str (fmtZ n v))], [(0, .row 3 1 n (fun i => [.int .i64 (v i)]) false)], 1, []⟩

theorem minV_le (v : Nat → Int) : ∀ k i, i ≤ k → minV v k ≤ v i
  | 0, i, h => by have : i = 0 := by omega
                  subst this; exact Int.le_refl _
  | k + 1, i, h => by
    simp only [minV]
    rcases Nat.lt_or_ge i (k + 1) with hi | hi
    · have := minV_le v k i (by omega); omega
    · have : i = k + 1 := by omega
      subst this; omega
theorem le_maxV (v : Nat → Int) : ∀ k i, i ≤ k → v i ≤ maxV v k
  | 0, i, h => by have : i = 0 := by omega
                  subst this; exact Int.le_refl _
  | k + 1, i, h => by
    simp only [maxV]
    rcases Nat.lt_or_ge i (k + 1) with hi | hi
    · have := le_maxV v k i (by omega); omega
    · have : i = k + 1 := by omega
      subst this; omega
theorem fmtOK_n {n : Nat} {v : Nat → Int} (h : fmtOK n v = true) : 1 ≤ n ∧ n ≤ 5 := by
  unfold fmtOK at h
  simp only [Bool.and_eq_true, decide_eq_true_eq] at h
  omega
theorem fmtOK_at {n : Nat} {v : Nat → Int} (h : fmtOK n v = true) (i : Nat) (hi : i < n) : 1 ≤ v i ∧ v i ≤ 99 := by
  unfold fmtOK at h
  simp only [Bool.and_eq_true, decide_eq_true_eq] at h
  have h1 := minV_le v (n - 1) i (by omega)
  have h2 := le_maxV v (n - 1) i (by omega)
  omega
theorem decF_lo {n : Int} (h0 : 0 ≤ n) (h1 : n < 10) : decF n = [UInt8.ofNat (48 + n.toNat)] := by
  unfold decF Lib.decDigits
  rw [dif_pos (by omega)]
theorem decF_hi {n : Int} (h0 : 10 ≤ n) (h1 : n < 100) : decF n = [UInt8.ofNat (48 + n.toNat / 10), UInt8.ofNat (48 + n.toNat % 10)] := by
  unfold decF
  rw [Lib.decDigits, dif_neg (by omega), Lib.decDigits, dif_pos (by omega)]
  rfl
theorem decF_len {n : Int} (h : 1 ≤ n ∧ n ≤ 99) : (decF n).length ≤ 2 := by
  rcases Int.lt_or_le n 10 with h1 | h1
  · rw [decF_lo (by omega) h1]; simp
  · rw [decF_hi h1 (by omega)]; simp
theorem fmtHead_len {n : Int} (h : 1 ≤ n ∧ n ≤ 99) : (fmtHead n).length ≤ 3 := by
  have := decF_len h
  unfold fmtHead
  split
  · simp; omega
  · omega
theorem fmtRest_len {n : Nat} {v : Nat → Int} (h : ∀ i, i < n → 1 ≤ v i ∧ v i ≤ 99) : ∀ k, k < n → (fmtRest v k).length ≤ 3 * k
  | 0, _ => by simp [fmtRest]
  | k + 1, hk => by
    have ih := fmtRest_len h k (by omega)
    have hd := decF_len (h (k + 1) hk)
    simp only [fmtRest, List.length_append, List.length_cons]
    omega

theorem words_miss {s : List UInt8} (h : Lib.index s [46] = -1) : words s = [s] := by
  unfold words Lib.split
  rw [Lib.count_miss h]; rfl
theorem words_hit {s : List UInt8} {i : Nat} (h : Lib.index s [46] = i) : words s = s.take i :: words (s.drop (i + 1)) := by
  have hc := Lib.count_hit (sub := [46]) (by simp) h
  unfold words Lib.split
  rw [hc, Nat.add_comm 1]
  have hne : (Lib.index s [46] == -1) = false := by rw [h]; simp
  show (if Lib.index s [46] == -1 then [s] else _) = _
  rw [hne, h]
  simp
theorem index_cases (s : List UInt8) : Lib.index s [46] = -1 ∨ ∃ i : Nat, Lib.index s [46] = i := by
  have := Lib.index_ge s [46]
  rcases Int.lt_or_le (Lib.index s [46]) 0 with h | h
  · exact .inl (by omega)
  · exact .inr ⟨(Lib.index s [46]).toNat, by omega⟩
theorem words_len (s : List UInt8) : (words s).length = Lib.count s [46] + 1 := by
  have key : ∀ n, ∀ s : List UInt8, s.length ≤ n → (words s).length = Lib.count s [46] + 1 := by
    intro n
    induction n with
    | zero =>
      intro s hs
      have : s = [] := List.length_eq_zero_iff.1 (by omega)
      subst this
      rw [words_miss rfl, Lib.count_miss rfl]; rfl
    | succ n ih =>
      intro s hs
      rcases index_cases s with h | ⟨i, h⟩
      · rw [words_miss h, Lib.count_miss h]; rfl
      · rw [words_hit h, Lib.count_hit (sub := [46]) (by simp) h]
        have hr := Lib.index_room s [46] (by omega)
        simp only [List.length_cons, List.length_nil, Nat.zero_add] at hr ⊢
        rw [ih _ (by simp; omega)]
        omega
  exact key _ s (Nat.le_refl _)

theorem words_le (s : List UInt8) : ∀ w ∈ words s, w.length ≤ s.length := by
  have key : ∀ n, ∀ s : List UInt8, s.length ≤ n → ∀ w ∈ words s, w.length ≤ s.length := by
    intro n
    induction n with
    | zero =>
      intro s hs w hw
      have : s = [] := List.length_eq_zero_iff.1 (by omega)
      subst this
      rw [words_miss rfl] at hw
      simp at hw
      subst hw; simp
    | succ n ih =>
      intro s hs w hw
      rcases index_cases s with h | ⟨i, h⟩
      · rw [words_miss h] at hw
        simp at hw
        subst hw; exact Nat.le_refl _
      · rw [words_hit h] at hw
        have hr := Lib.index_room s [46] (by omega)
        simp only [List.length_cons, List.length_nil, Nat.zero_add] at hr
        rcases List.mem_cons.1 hw with rfl | hw
        · simp; omega
        · have := ih (s.drop (i + 1)) (by simp; omega) w hw
          simp at this; omega
  exact key _ s (Nat.le_refl _)

/-- What the program's variables hold when a call begins. -/
structure LaidW (w : World) : Prop where
  maxLen : ∃ m, w.cell? ⟨0, 0, none⟩ = some (.int .i64 m)
  errS : ∃ t p, w.cell? ⟨1, 0, none⟩ = some (.iface t p)
  errR : ∃ t p, w.cell? ⟨2, 0, none⟩ = some (.iface t p)

def wordV (s : List UInt8) (i : Nat) : Int := atoiZ ((words s).getD i [])
def parseOK (s : List UInt8) : Bool := fmtOK (words s).length (wordV s) && decide (fmtZ (words s).length (wordV s) = s)
def S_paState (s : List UInt8) (k : Nat) : St := ⟨[(0, .str s), (4, .own 0 k), (12, .view 1 (words s).length (fun i => [.str ((words s).getD i [])])), (13, .int .i64 ((words s).length : Nat)), (14, .int .i64 k)], [(0, .row 3 1 k (fun i => [.int .i64 (wordV s i)]) false)], 1, []⟩
def L_parse (s : List UInt8) : LSpec := fun st Q => canonIs te 0 [0, 4, 12, 13, 14] (ownNil 4 3 1 st) (S_paState s 0) ∧ s.length < 4294967281 ∧ Q (.exit 0) ⟨[(0, .str s), (4, .own 0 (words s).length)], [(0, .row 3 1 (words s).length (fun i => [.int .i64 (wordV s i)]) false)], 1, []⟩
def R_parse : RSpec
  | [.str s], [], R => s.length < 4294967281 ∧ condP (parseOK s) (R (.tuple [.own 0 (words s).length, .int .i64 0]) [(0, .row 3 1 (words s).length (fun i => [.int .i64 (wordV s i)]) false)]) (R (.tuple [.nil, .int .i64 60]) [])
  | _, _, _ => False


end Go.Eng

/- Codes of classifications. -/
namespace Go.Eng
open Go.Proofs Go.RowKit
set_option maxRecDepth 20000
theorem nf_min (n : Nat) (v : Nat → Int) (R : AV → List (Nat × AObj) → Prop) : wpFn te [] [(5, L_mm n v (minV v)), (1002, fun _ _ => False)] 0 Tryd.f56 [.own 0 n] [.row 3 1 n (fun i => [.int .i64 (v i)]) false] R = (condP (decide ((↑n : Int) < (1 : Int))) False (((0 : Int) ≤ (0 : Int) ∧ (0 : Int) < (↑n : Int)) ∧ (0 < n ∧ 1 = 1) ∧ (TEq [(0, .own 0 n), (3, .int .i64 (v 0)), (4, .int .i64 1)] [(0, .own 0 n), (3, .int .i64 (minV v 0)), (4, .int .i64 ((↑0 : Int) + (1 : Int)))] ∧ RowsEq [(0, .row 3 1 n (fun (i : Nat) => [.int .i64 (v i)]) false)] [(0, .row 3 1 n (fun (i : Nat) => [.int .i64 (v i)]) false)]) ∧ 1 ≤ n ∧ n ≤ 4611686018427387904 ∧ (∀ (i : Nat), i < n → true = true) ∧ ∃ (O' : List (Nat × AObj)), RowsEq [(0, .row 3 1 n (fun (i : Nat) => [.int .i64 (v i)]) false)] O' ∧ R (.int .i64 (minV v (n - 1))) O')) := by kernel_rfl
theorem nf_min_round (n : Nat) (v : Nat → Int) (k : Nat) (P : Nat → Prop) (R : Exit → St → Prop) : roundP ⟨te, [], [], 1, 25, 0⟩ (loopB Tryd.f56 5) [0, 3, 4] [3] [] (S_mmState n v (minV v)) P R (S_mmState n v (minV v) k) = (condP (decide ((↑k : Int) + (1 : Int) < (↑n : Int))) (((0 : Int) ≤ (↑k : Int) + (1 : Int) ∧ (↑k : Int) + (1 : Int) < (↑n : Int)) ∧ (Int.toNat ((↑k : Int) + (1 : Int)) < n ∧ 1 = 1) ∧ inR .i64 ((↑k : Int) + (1 : Int) + (1 : Int)) ∧ ∃ (i' : Nat), (TEq [(0, .own 0 n), (3, .int .i64 (min (minV v k) (v (Int.toNat ((↑k : Int) + (1 : Int)))))), (4, .int .i64 ((↑k : Int) + (1 : Int) + (1 : Int)))] [(0, .own 0 n), (3, .int .i64 (minV v i')), (4, .int .i64 ((↑i' : Int) + (1 : Int)))] ∧ RowsEq [(0, .row 3 1 n (fun (i : Nat) => [.int .i64 (v i)]) false)] [(0, .row 3 1 n (fun (i : Nat) => [.int .i64 (v i)]) false)]) ∧ P i') ((∀ (i : Nat), i < n → true = true) ∧ ∃ (O' : List (Nat × AObj)), RowsEq [(0, .row 3 1 n (fun (i : Nat) => [.int .i64 (v i)]) false)] O' ∧ R (.exit 0) (St.mk [(3, .int .i64 (minV v k))] O' 1 []))) := by kernel_rfl
theorem nf_max (n : Nat) (v : Nat → Int) (R : AV → List (Nat × AObj) → Prop) : wpFn te [] [(5, L_mm n v (maxV v)), (1002, fun _ _ => False)] 0 Tryd.f57 [.own 0 n] [.row 3 1 n (fun i => [.int .i64 (v i)]) false] R = (condP (decide ((↑n : Int) < (1 : Int))) False (((0 : Int) ≤ (0 : Int) ∧ (0 : Int) < (↑n : Int)) ∧ (0 < n ∧ 1 = 1) ∧ (TEq [(0, .own 0 n), (3, .int .i64 (v 0)), (4, .int .i64 1)] [(0, .own 0 n), (3, .int .i64 (maxV v 0)), (4, .int .i64 ((↑0 : Int) + (1 : Int)))] ∧ RowsEq [(0, .row 3 1 n (fun (i : Nat) => [.int .i64 (v i)]) false)] [(0, .row 3 1 n (fun (i : Nat) => [.int .i64 (v i)]) false)]) ∧ 1 ≤ n ∧ n ≤ 4611686018427387904 ∧ (∀ (i : Nat), i < n → true = true) ∧ ∃ (O' : List (Nat × AObj)), RowsEq [(0, .row 3 1 n (fun (i : Nat) => [.int .i64 (v i)]) false)] O' ∧ R (.int .i64 (maxV v (n - 1))) O')) := by kernel_rfl
theorem nf_max_round (n : Nat) (v : Nat → Int) (k : Nat) (P : Nat → Prop) (R : Exit → St → Prop) : roundP ⟨te, [], [], 1, 25, 0⟩ (loopB Tryd.f57 5) [0, 3, 4] [3] [] (S_mmState n v (maxV v)) P R (S_mmState n v (maxV v) k) = (condP (decide ((↑k : Int) + (1 : Int) < (↑n : Int))) (((0 : Int) ≤ (↑k : Int) + (1 : Int) ∧ (↑k : Int) + (1 : Int) < (↑n : Int)) ∧ (Int.toNat ((↑k : Int) + (1 : Int)) < n ∧ 1 = 1) ∧ inR .i64 ((↑k : Int) + (1 : Int) + (1 : Int)) ∧ ∃ (i' : Nat), (TEq [(0, .own 0 n), (3, .int .i64 (max (maxV v k) (v (Int.toNat ((↑k : Int) + (1 : Int)))))), (4, .int .i64 ((↑k : Int) + (1 : Int) + (1 : Int)))] [(0, .own 0 n), (3, .int .i64 (maxV v i')), (4, .int .i64 ((↑i' : Int) + (1 : Int)))] ∧ RowsEq [(0, .row 3 1 n (fun (i : Nat) => [.int .i64 (v i)]) false)] [(0, .row 3 1 n (fun (i : Nat) => [.int .i64 (v i)]) false)]) ∧ P i') ((∀ (i : Nat), i < n → true = true) ∧ ∃ (O' : List (Nat × AObj)), RowsEq [(0, .row 3 1 n (fun (i : Nat) => [.int .i64 (v i)]) false)] O' ∧ R (.exit 0) (St.mk [(3, .int .i64 (maxV v k))] O' 1 []))) := by kernel_rfl
theorem nf_format (n : Nat) (v : Nat → Int) (R : AV → List (Nat × AObj) → Prop) : wpFn te [(56, .det S_min), (57, .det S_max), (58, .det S_itoa)] [(7, L_fmt n v)] 0 Tryd.f43 [.own 0 n] [.row 3 1 n (fun i => [.int .i64 (v i)]) false] R = (condP (decide ((↑n : Int) < (1 : Int))) ((∀ (i : Nat), i < n → true = true) ∧ ∃ (O' : List (Nat × AObj)), RowsEq [(0, .row 3 1 n (fun (i : Nat) => [.int .i64 (v i)]) false)] O' ∧ R (.tuple [.str [], .int .i64 64]) O') (condP (decide ((5 : Int) < (↑n : Int))) ((∀ (i : Nat), i < n → true = true) ∧ ∃ (O' : List (Nat × AObj)), RowsEq [(0, .row 3 1 n (fun (i : Nat) => [.int .i64 (v i)]) false)] O' ∧ R (.tuple [.str [], .int .i64 64]) O') ((∀ (i : Nat), i < n → true = true) ∧ (3 = 3 ∧ false = false ∧ 1 ≤ n ∧ n = n ∧ n ≤ 4611686018427387904 ∧ (fun (i : Nat) => [.int .i64 (v i)]) = intRow (vInt fun (i : Nat) => [.int .i64 (v i)])) ∧ (∀ (i : Nat), i < n → true = true) ∧ condP (decide (minV (vInt fun (i : Nat) => [.int .i64 (v i)]) (n - 1) < (1 : Int))) ((∀ (i : Nat), i < n → true = true) ∧ ∃ (O' : List (Nat × AObj)), RowsEq [(0, .row 3 1 n (fun (i : Nat) => [.int .i64 (v i)]) false)] O' ∧ R (.tuple [.str [], .int .i64 64]) O') ((∀ (i : Nat), i < n → true = true) ∧ (3 = 3 ∧ false = false ∧ 1 ≤ n ∧ n = n ∧ n ≤ 4611686018427387904 ∧ (fun (i : Nat) => [.int .i64 (v i)]) = intRow (vInt fun (i : Nat) => [.int .i64 (v i)])) ∧ (∀ (i : Nat), i < n → true = true) ∧ condP (decide ((99 : Int) < maxV (vInt fun (i : Nat) => [.int .i64 (v i)]) (n - 1))) ((∀ (i : Nat), i < n → true = true) ∧ ∃ (O' : List (Nat × AObj)), RowsEq [(0, .row 3 1 n (fun (i : Nat) => [.int .i64 (v i)]) false)] O' ∧ R (.tuple [.str [], .int .i64 64]) O') (((0 : Int) ≤ (0 : Int) ∧ (0 : Int) < (↑n : Int)) ∧ (0 < n ∧ 1 = 1) ∧ ((0 : Int) ≤ v 0 ∧ v 0 < (100 : Int)) ∧ ((0 : Int) ≤ (0 : Int) ∧ (0 : Int) < (↑n : Int)) ∧ (0 < n ∧ 1 = 1) ∧ condP (decide (v 0 < (10 : Int))) (List.length ([(48 : UInt8)]) + List.length (decF (v 0)) ≤ 9223372036854775807 ∧ ((0 : Int) ≤ (1 : Int) ∧ (1 : Int) ≤ (↑n : Int)) ∧ (TEq [(4, .str ([(48 : UInt8)] ++ decF (v 0))), (36, .sub 0 1 1 (n - Int.toNat (1 : Int))), (37, .int .i64 (↑(n - Int.toNat (1 : Int)) : Int)), (38, .int .i64 0)] [(4, .str (fmtHead (v 0) ++ fmtRest v 0)), (36, .sub 0 1 1 (n - 1)), (37, .int .i64 (↑(n - 1) : Int)), (38, .int .i64 (↑0 : Int))] ∧ RowsEq [(0, .row 3 1 n (fun (i : Nat) => [.int .i64 (v i)]) false)] [(0, .row 3 1 n (fun (i : Nat) => [.int .i64 (v i)]) false)]) ∧ fmtOK n v = true ∧ (∀ (i : Nat), i < n → true = true) ∧ ∃ (O' : List (Nat × AObj)), RowsEq [(0, .row 3 1 n (fun (i : Nat) => [.int .i64 (v i)]) false)] O' ∧ R (.tuple [.str (fmtZ n v), .int .i64 0]) O') (((0 : Int) ≤ (1 : Int) ∧ (1 : Int) ≤ (↑n : Int)) ∧ (TEq [(4, .str (decF (v 0))), (36, .sub 0 1 1 (n - Int.toNat (1 : Int))), (37, .int .i64 (↑(n - Int.toNat (1 : Int)) : Int)), (38, .int .i64 0)] [(4, .str (fmtHead (v 0) ++ fmtRest v 0)), (36, .sub 0 1 1 (n - 1)), (37, .int .i64 (↑(n - 1) : Int)), (38, .int .i64 (↑0 : Int))] ∧ RowsEq [(0, .row 3 1 n (fun (i : Nat) => [.int .i64 (v i)]) false)] [(0, .row 3 1 n (fun (i : Nat) => [.int .i64 (v i)]) false)]) ∧ fmtOK n v = true ∧ (∀ (i : Nat), i < n → true = true) ∧ ∃ (O' : List (Nat × AObj)), RowsEq [(0, .row 3 1 n (fun (i : Nat) => [.int .i64 (v i)]) false)] O' ∧ R (.tuple [.str (fmtZ n v), .int .i64 0]) O')))))) := by kernel_rfl
theorem nf_format_round (n : Nat) (v : Nat → Int) (k : Nat) (P : Nat → Prop) (R : Exit → St → Prop) : roundP ⟨te, [(58, .det S_itoa)], [], 1, 49, 0⟩ (loopB Tryd.f43 7) [4, 36, 37, 38] [4] [] (S_fmtState n v) P R (S_fmtState n v k) = (condP (decide ((↑k : Int) < (↑(n - 1) : Int))) (((0 : Int) ≤ (↑k : Int) ∧ (↑k : Int) < (↑(n - 1) : Int) ∧ 1 = 1) ∧ (1 + Int.toNat (↑k : Int) < n ∧ 1 = 1) ∧ ((0 : Int) ≤ v (1 + Int.toNat (↑k : Int)) ∧ v (1 + Int.toNat (↑k : Int)) < (100 : Int)) ∧ List.length ([(46 : UInt8)]) + List.length (decF (v (1 + Int.toNat (↑k : Int)))) ≤ 9223372036854775807 ∧ List.length (fmtHead (v 0) ++ fmtRest v k) + List.length ([(46 : UInt8)] ++ decF (v (1 + Int.toNat (↑k : Int)))) ≤ 9223372036854775807 ∧ inR .i64 ((↑k : Int) + (1 : Int)) ∧ ∃ (i' : Nat), (TEq [(4, .str (fmtHead (v 0) ++ fmtRest v k ++ ([(46 : UInt8)] ++ decF (v (1 + Int.toNat (↑k : Int)))))), (36, .sub 0 1 1 (n - 1)), (37, .int .i64 (↑(n - 1) : Int)), (38, .int .i64 ((↑k : Int) + (1 : Int)))] [(4, .str (fmtHead (v 0) ++ fmtRest v i')), (36, .sub 0 1 1 (n - 1)), (37, .int .i64 (↑(n - 1) : Int)), (38, .int .i64 (↑i' : Int))] ∧ RowsEq [(0, .row 3 1 n (fun (i : Nat) => [.int .i64 (v i)]) false)] [(0, .row 3 1 n (fun (i : Nat) => [.int .i64 (v i)]) false)]) ∧ P i') ((∀ (i : Nat), i < n → true = true) ∧ ∃ (O' : List (Nat × AObj)), RowsEq [(0, .row 3 1 n (fun (i : Nat) => [.int .i64 (v i)]) false)] O' ∧ R (.exit 0) (St.mk [(4, .str (fmtHead (v 0) ++ fmtRest v k))] O' 1 []))) := by kernel_rfl

variable {C : Ctx}

theorem min_loop (hP : C.P = Tryd.prog) (n : Nat) (v : Nat → Int) : LoopOK C 1 25 (loopC Tryd.f56 5) (L_mm n v (minV v)) := by
  rintro st Q ⟨h0, hn, hn2, hQ⟩
  refine LoopOK.mk (prg hP) [] 0 .nil [0, 3, 4] [3] [] (S_mmState n v (minV v)) (fun k => k + 1 ≤ n) (fun k => n - k) 0 hn h0 (fun k hk => ?_) (fun i => ⟨fun _ _ => rfl, trivial⟩)
  rw [nf_min_round]
  refine condP_dec (fun h => ?_) (fun h => ⟨fun _ _ => rfl, _, rowsEq1, ?_⟩)
  · have e : ((k : Int) + 1).toNat = k + 1 := by omega
    simp only [inR, e, and_true]
    exact ⟨by omega, by omega, by omega, k + 1, ⟨rfl, rowsEq1⟩, by omega, by omega⟩
  · have : k = n - 1 := by omega
    rw [this]; exact hQ

theorem max_loop (hP : C.P = Tryd.prog) (n : Nat) (v : Nat → Int) : LoopOK C 1 25 (loopC Tryd.f57 5) (L_mm n v (maxV v)) := by
  rintro st Q ⟨h0, hn, hn2, hQ⟩
  refine LoopOK.mk (prg hP) [] 0 .nil [0, 3, 4] [3] [] (S_mmState n v (maxV v)) (fun k => k + 1 ≤ n) (fun k => n - k) 0 hn h0 (fun k hk => ?_) (fun i => ⟨fun _ _ => rfl, trivial⟩)
  rw [nf_max_round]
  refine condP_dec (fun h => ?_) (fun h => ⟨fun _ _ => rfl, _, rowsEq1, ?_⟩)
  · have e : ((k : Int) + 1).toNat = k + 1 := by omega
    simp only [inR, e, and_true]
    exact ⟨by omega, by omega, by omega, k + 1, ⟨rfl, rowsEq1⟩, by omega, by omega⟩
  · have : k = n - 1 := by omega
    rw [this]; exact hQ

theorem min_ok (hP : C.P = Tryd.prog) : SpecOK C 56 S_min := by
  rintro args objs U Os vc h hvc
  unfold S_min at h
  split at h <;> simp only [Option.some.injEq, Prod.mk.injEq, reduceCtorEq] at h
  rename_i n t m f fr
  obtain ⟨rfl, rfl, rfl⟩ := h
  obtain ⟨rfl, rfl, hn, rfl, hn2, hf⟩ := hvc
  generalize vInt f = v at hf
  subst hf
  refine SpecOK.wpL (prg hP) [] [(5, L_mm n v (minV v)), (1002, fun _ _ => False)] 0 .nil (hP ▸ Tryd.func56) rfl rfl rfl
    [(regC Tryd.f56 2, fun _ _ => False), (loopC Tryd.f56 5, L_mm n v (minV v))] (by kernel_rfl) ⟨fun _ _ h => h.elim, min_loop hP n v, trivial⟩ ?_
  show wpFn _ _ _ _ _ _ [.row _ _ _ (fun i => [.int .i64 (v i)]) _] _
  rw [nf_min]
  exact condP_dec (fun h => absurd h (by omega)) (fun _ => ⟨by omega, by omega, ⟨rfl, rowsEq1⟩, hn, hn2, fun _ _ => rfl, _, rowsEq1, rfl, rfl⟩)

theorem max_ok (hP : C.P = Tryd.prog) : SpecOK C 57 S_max := by
  rintro args objs U Os vc h hvc
  unfold S_max at h
  split at h <;> simp only [Option.some.injEq, Prod.mk.injEq, reduceCtorEq] at h
  rename_i n t m f fr
  obtain ⟨rfl, rfl, rfl⟩ := h
  obtain ⟨rfl, rfl, hn, rfl, hn2, hf⟩ := hvc
  generalize vInt f = v at hf
  subst hf
  refine SpecOK.wpL (prg hP) [] [(5, L_mm n v (maxV v)), (1002, fun _ _ => False)] 0 .nil (hP ▸ Tryd.func57) rfl rfl rfl
    [(regC Tryd.f57 2, fun _ _ => False), (loopC Tryd.f57 5, L_mm n v (maxV v))] (by kernel_rfl) ⟨fun _ _ h => h.elim, max_loop hP n v, trivial⟩ ?_
  show wpFn _ _ _ _ _ _ [.row _ _ _ (fun i => [.int .i64 (v i)]) _] _
  rw [nf_max]
  exact condP_dec (fun h => absurd h (by omega)) (fun _ => ⟨by omega, by omega, ⟨rfl, rowsEq1⟩, hn, hn2, fun _ _ => rfl, _, rowsEq1, rfl, rfl⟩)

theorem itoa_ok (hP : C.P = Tryd.prog) : SpecOK C 58 S_itoa := by
  rintro args objs U Os vc h hvc
  unfold S_itoa at h
  split at h <;> simp only [Option.some.injEq, Prod.mk.injEq, reduceCtorEq] at h
  rename_i n
  obtain ⟨rfl, rfl, rfl⟩ := h
  obtain ⟨i, rfl⟩ : ∃ i : Nat, n = i := ⟨n.toNat, by omega⟩
  refine ACalls.below ⟨Tryd.f58, hP ▸ Tryd.func58, rfl, by decide⟩ fun w M cargs _ _ hM hl hv => ?_
  obtain ⟨a, rfl⟩ := mem1 hl
  have := (hv 0 _ _ rfl rfl).int_iff
  subst this
  rw [hP]
  refine (Tryd.strconv_Itoa_small i (by omega) w).mono ?_
  rintro e w' ⟨rfl, rfl⟩
  exact ⟨_, rfl, Below.refl _ _, .str (by simp [decF])⟩

theorem format_loop (hP : C.P = Tryd.prog) (n : Nat) (v : Nat → Int) : LoopOK C 1 49 (loopC Tryd.f43 7) (L_fmt n v) := by
  rintro st Q ⟨h0, hok, hQ⟩
  have hv := fmtOK_at hok
  have hn := fmtOK_n hok
  refine LoopOK.mk (prg hP) [(58, .det S_itoa)] 0 (.cons (itoa_ok hP) .nil) [4, 36, 37, 38] [4] [] (S_fmtState n v) (fun k => k ≤ n - 1) (fun k => n - k) 0 (Nat.zero_le _) h0 (fun k hk => ?_) (fun i => ⟨fun _ _ => rfl, trivial⟩)
  rw [nf_format_round]
  have hl1 := fmtHead_len (hv 0 (by omega))
  have hl2 := fmtRest_len (n := n) (fun i hi => hv i hi) k (by omega)
  refine condP_dec (fun h => ?_) (fun h => ⟨fun _ _ => rfl, _, rowsEq1, ?_⟩)
  · have hlt : k < n - 1 := by omega
    have e : 1 + (k : Int).toNat = k + 1 := by omega
    have hk1 := hv (k + 1) (by omega)
    have hl3 := decF_len hk1
    simp only [inR, e, and_true, List.length_append, List.length_cons, List.length_nil]
    refine ⟨by omega, by omega, by omega, by omega, by omega, by omega, k + 1, ⟨?_, rowsEq1⟩, by omega, by omega⟩
    unfold TEq
    rw [show fmtRest v (k + 1) = fmtRest v k ++ (46 :: decF (v (k + 1))) from rfl]
    simp
  · have : k = n - 1 := by omega
    rw [this]; exact hQ

theorem format_ok (hP : C.P = Tryd.prog) : SpecOK C 43 S_format := by
  rintro args objs U Os vc h hvc
  unfold S_format at h
  split at h <;> simp only [Option.some.injEq, Prod.mk.injEq, reduceCtorEq] at h
  rename_i n t m f fr
  obtain ⟨rfl, rfl, rfl⟩ := h
  obtain ⟨rfl, rfl, rfl, hn2, hf⟩ := hvc
  generalize vInt f = v at hf
  subst hf
  refine SpecOK.wpL (prg hP) [(56, .det S_min), (57, .det S_max), (58, .det S_itoa)] [(7, L_fmt n v)] 0 (.cons (min_ok hP) (.cons (max_ok hP) (.cons (itoa_ok hP) .nil))) (hP ▸ Tryd.func43) rfl rfl rfl
    [(loopC Tryd.f43 7, L_fmt n v)] (by kernel_rfl) ⟨format_loop hP n v, trivial⟩ ?_
  show wpFn _ _ _ _ _ _ [.row _ _ _ (fun i => [.int .i64 (v i)]) _] _
  rw [nf_format]
  have hvi : (vInt fun i => [AV.int .i64 (v i)]) = v := rfl
  rw [hvi]
  have bad : fmtOK n v = false → (AV.tuple [.str [], .int .i64 64] = .tuple [.str (bif fmtOK n v then fmtZ n v else []), .int .i64 (bif fmtOK n v then 0 else 64)]) := fun h => by rw [h]; rfl
  have good : fmtOK n v = true → (AV.tuple [.str (fmtZ n v), .int .i64 0] = .tuple [.str (bif fmtOK n v then fmtZ n v else []), .int .i64 (bif fmtOK n v then 0 else 64)]) := fun h => by rw [h]; rfl
  refine condP_dec (fun h1 => ⟨fun _ _ => rfl, _, rowsEq1, bad ?_, rfl⟩) (fun h1 => condP_dec (fun h2 => ⟨fun _ _ => rfl, _, rowsEq1, bad ?_, rfl⟩) (fun h2 => ⟨fun _ _ => rfl, ⟨rfl, rfl, by omega, rfl, hn2, rfl⟩, fun _ _ => rfl,
    condP_dec (fun h3 => ⟨fun _ _ => rfl, _, rowsEq1, bad ?_, rfl⟩) (fun h3 => ⟨fun _ _ => rfl, ⟨rfl, rfl, by omega, rfl, hn2, rfl⟩, fun _ _ => rfl, condP_dec (fun h4 => ⟨fun _ _ => rfl, _, rowsEq1, bad ?_, rfl⟩) (fun h4 => ?_)⟩)⟩))
  · unfold fmtOK; rw [decide_eq_false (p := 1 ≤ n) (by omega)]; rfl
  · unfold fmtOK; rw [decide_eq_false (p := n ≤ 5) (by omega)]; simp
  · unfold fmtOK; rw [decide_eq_false (p := 1 ≤ minV v (n - 1)) (by omega)]; simp
  · unfold fmtOK; rw [decide_eq_false (p := maxV v (n - 1) ≤ 99) (by omega)]; simp
  · have hok : fmtOK n v = true := by
      unfold fmtOK
      rw [decide_eq_true (p := 1 ≤ n) (by omega), decide_eq_true (p := n ≤ 5) (by omega), decide_eq_true (p := 1 ≤ minV v (n - 1)) (by omega), decide_eq_true (p := maxV v (n - 1) ≤ 99) (by omega)]; rfl
    have hv := fmtOK_at hok 0 (by omega)
    have hl3 := decF_len hv
    refine ⟨by omega, ⟨by omega, rfl⟩, by omega, by omega, ⟨by omega, rfl⟩, condP_dec (fun h5 => ⟨by simp only [List.length_cons, List.length_nil]; omega, by omega, ⟨?_, rowsEq1⟩, hok, fun _ _ => rfl, _, rowsEq1, good hok, rfl⟩) (fun h5 => ⟨by omega, ⟨?_, rowsEq1⟩, hok, fun _ _ => rfl, _, rowsEq1, good hok, rfl⟩)⟩
    · unfold TEq fmtHead
      rw [decide_eq_true h5]
      simp [fmtRest]
    · unfold TEq fmtHead
      rw [decide_eq_false h5]
      simp [fmtRest]

end Go.Eng

/- Codes of classifications: the words of a code, their numbers, the parts. -/
namespace Go.Eng
open Go.Proofs Go.RowKit
set_option maxRecDepth 20000

theorem nf_parse (s : List UInt8) (R : AV → List (Nat × AObj) → Prop) : wpFn te [(41, .det S_split), (43, .det S_format)] [(3, L_parse s)] 0 Tryd.f35 [.str s] [] R = ((List.length s < 4294967281 ∧ [(46 : UInt8)] = [(46 : UInt8)]) ∧ (TEq [(0, .str s), (4, .own 0 0), (12, .view 1 (List.length (words s)) fun (i : Nat) => [.str (List.getD (words s) i [])]), (13, .int .i64 (↑(List.length (words s)) : Int)), (14, .int .i64 0)] [(0, .str s), (4, .own 0 0), (12, .view 1 (List.length (words s)) fun (i : Nat) => [.str (List.getD (words s) i [])]), (13, .int .i64 (↑(List.length (words s)) : Int)), (14, .int .i64 (↑0 : Int))] ∧ RowsEq [(0, .row 3 1 0 (fun (x : Nat) => []) false)] [(0, .row 3 1 0 (fun (i : Nat) => [.int .i64 (wordV s i)]) false)]) ∧ List.length s < 4294967281 ∧ (∀ (i : Nat), i < List.length (words s) → true = true) ∧ (3 = 3 ∧ false = false ∧ List.length (words s) = List.length (words s) ∧ List.length (words s) ≤ 4611686018427387904 ∧ (fun (i : Nat) => [.int .i64 (wordV s i)]) = intRow (vInt fun (i : Nat) => [.int .i64 (wordV s i)])) ∧ (∀ (i : Nat), i < List.length (words s) → true = true) ∧ condP (!decide ((bif fmtOK (List.length (words s)) (vInt fun (i : Nat) => [.int .i64 (wordV s i)]) then (0 : Int) else (64 : Int)) = (0 : Int))) (R (.tuple [.nil, .int .i64 60]) []) (condP (!decide ((bif fmtOK (List.length (words s)) (vInt fun (i : Nat) => [.int .i64 (wordV s i)]) then fmtZ (List.length (words s)) (vInt fun (i : Nat) => [.int .i64 (wordV s i)]) else []) = s)) (R (.tuple [.nil, .int .i64 60]) []) ((∀ (i : Nat), i < List.length (words s) → true = true) ∧ ∃ (O' : List (Nat × AObj)), RowsEq [(0, .row 3 1 (List.length (words s)) (fun (i : Nat) => [.int .i64 (wordV s i)]) false)] O' ∧ R (.tuple [.own 0 (List.length (words s)), .int .i64 0]) O'))) := by kernel_rfl
theorem nf_parse_round (s : List UInt8) (k : Nat) (P : Nat → Prop) (R : Exit → St → Prop) : roundP ⟨te, [(42, .det S_atoi)], [], 0, 41, 0⟩ (loopB Tryd.f35 3) [0, 4, 12, 13, 14] [0, 4] [] (S_paState s) P R (S_paState s k) = (condP (decide ((↑k : Int) < (↑(List.length (words s)) : Int))) (((0 : Int) ≤ (↑k : Int) ∧ (↑k : Int) < (↑(List.length (words s)) : Int) ∧ 1 = 1) ∧ List.length (List.getD (words s) (Int.toNat (↑k : Int)) []) ≤ 281474976710656 ∧ (1 ≤ 16777216 ∧ 1 = 1 ∧ 1 ≤ 9223372036854775807) ∧ ((1 ≤ 1 ∧ 1 = 1) ∧ k ≤ k ∧ 1 = 1 ∧ 3 = 3 ∧ 1 = 1 ∧ k + 1 ≤ 9223372036854775807 ∧ (k + 1) * TI.bytes (TI.mk (TypeDesc.int IntKind.i64) 1 8 (Value.int IntKind.i64 0) false) ≤ 140737488355328) ∧ inR .i64 ((↑k : Int) + (1 : Int)) ∧ ∃ (i' : Nat), (TEq [(0, .str s), (4, .own 0 (k + 1)), (12, .view 1 (List.length (words s)) fun (i : Nat) => [.str (List.getD (words s) i [])]), (13, .int .i64 (↑(List.length (words s)) : Int)), (14, .int .i64 ((↑k : Int) + (1 : Int)))] [(0, .str s), (4, .own 0 i'), (12, .view 1 (List.length (words s)) fun (i : Nat) => [.str (List.getD (words s) i [])]), (13, .int .i64 (↑(List.length (words s)) : Int)), (14, .int .i64 (↑i' : Int))] ∧ RowsEq [(0, .row 3 1 (k + 1) (apF k (fun (i : Nat) => [.int .i64 (wordV s i)]) (chunkA (TI.sz (TI.mk (TypeDesc.int IntKind.i64) 1 8 (Value.int IntKind.i64 0) false)) (.int .i64 (atoiZ (List.getD (words s) (Int.toNat (↑k : Int)) [])) :: List.append [] (List.flatten (List.replicate (nat_lit 0) [.int .i64 0]))))) false)] [(0, .row 3 1 i' (fun (i : Nat) => [.int .i64 (wordV s i)]) false)]) ∧ P i') ((∀ (i : Nat), i < k → true = true) ∧ ∃ (O' : List (Nat × AObj)), RowsEq [(0, .row 3 1 k (fun (i : Nat) => [.int .i64 (wordV s i)]) false)] O' ∧ R (.exit 0) (St.mk [(0, .str s), (4, .own 0 k)] O' 1 []))) := by kernel_rfl

variable {C : Ctx}

theorem split_ok (hP : C.P = Tryd.prog) (hL : ∀ w, C.laid w → LaidW w) : SpecOK C 41 S_split := by
  rintro args objs U Os vc h hvc
  unfold S_split at h
  split at h <;> simp only [Option.some.injEq, Prod.mk.injEq, reduceCtorEq] at h
  rename_i s sep
  obtain ⟨rfl, rfl, rfl⟩ := h
  obtain ⟨hs, rfl⟩ := hvc
  refine ACalls.below ⟨Tryd.f41, hP ▸ Tryd.func41, rfl, by decide⟩ fun w M cargs hlaid _ hM hl hv => ?_
  obtain ⟨m, hm⟩ := (hL w hlaid).maxLen
  obtain ⟨a, b, rfl⟩ := mem2 hl
  have e1 := (hv 0 _ _ rfl rfl).str_iff
  have e2 := (hv 1 _ _ rfl rfl).str_iff
  subst e1; subst e2
  rw [hP]
  refine (Tryd.strings_Split ⟨s.toArray⟩ ⟨#[46]⟩ m w (by simpa [ByteArray.size] using hs) hm (by decide)).mono ?_
  rintro e w' ⟨rfl, rfl⟩
  have hd := Lib.splitB_data ⟨#[46]⟩ 0 (Lib.countB ⟨s.toArray⟩ ⟨#[46]⟩) ⟨s.toArray⟩
  have hw : (Lib.splitB ⟨#[46]⟩ 0 (Lib.countB ⟨s.toArray⟩ ⟨#[46]⟩) ⟨s.toArray⟩).map (·.data.toList) = words s := by
    rw [hd]
    simp [words, Lib.split]
  have hlen : (Lib.splitB ⟨#[46]⟩ 0 (Lib.countB ⟨s.toArray⟩ ⟨#[46]⟩) ⟨s.toArray⟩).length = (words s).length := by rw [← hw]; simp
  have hcnt : Lib.countB ⟨s.toArray⟩ ⟨#[46]⟩ + 1 = (words s).length := by
    rw [words_len]
  refine ⟨_, rfl, (Below.refl _ _).alloc (Nat.le_refl _) _, ?_⟩
  rw [hcnt]
  have hle := Lib.count_le s [46]
  refine V.newview hM (by simp [hlen]) (by rw [words_len]; unfold maxLen; omega) (fun i v hv => ?_) (fun i v hv => ?_)
  · rw [List.getElem?_toArray, List.getElem?_map] at hv
    obtain ⟨x, _, rfl⟩ := Option.map_eq_some_iff.1 hv
    exact rfl
  · simp at hv
    obtain ⟨x, hx, rfl⟩ := hv
    refine ⟨_, rfl, .str ?_⟩
    have : (words s)[i]? = some x.data.toList := by rw [← hw]; simp [hx]
    simp [List.getD, this]

theorem atoi_ok (hP : C.P = Tryd.prog) (hL : ∀ w, C.laid w → LaidW w) : SpecOK C 42 S_atoi := by
  rintro args objs U Os vc h hvc
  unfold S_atoi at h
  split at h <;> simp only [Option.some.injEq, Prod.mk.injEq, reduceCtorEq] at h
  rename_i s
  obtain ⟨rfl, rfl, rfl⟩ := h
  refine ACalls.below ⟨Tryd.f42, hP ▸ Tryd.func42, rfl, by decide⟩ fun w M cargs hlaid _ hM hl hv => ?_
  obtain ⟨a, rfl⟩ := mem1 hl
  have e1 := (hv 0 _ _ rfl rfl).str_iff
  subst e1
  rw [hP]
  have hsz : (⟨s.toArray⟩ : ByteArray).size = s.length := by simp [ByteArray.size]
  have hdt : (⟨s.toArray⟩ : ByteArray).data.toList = s := by simp
  have tup : ∀ (w' : World) (n : Int) (e : Value), V w' M nob (.tuple #[.int .i64 n, e]) (.tuple [.int .i64 n, .any]) := fun w' n e => .tuple rfl fun j v u hv hu => by
    match j with
    | 0 => simp at hv hu; subst hv; subst hu; exact .int
    | 1 => simp at hv hu; subst hv; subst hu; exact .any
    | j + 2 => simp at hv
  unfold atoiZ
  cases hh : Lib.atoiAll s with
  | ok v =>
    refine (Tryd.strconv_Atoi_ok ⟨s.toArray⟩ (by omega) v (by rw [hdt]; exact hh) w).mono ?_
    rintro e w' ⟨rfl, hw⟩
    refine ⟨_, rfl, ?_, tup _ _ _⟩
    rcases hw with rfl | ⟨t, rfl⟩
    · exact Below.refl _ _
    · exact Lib.bytesWorld_below _ _ _
  | range =>
    obtain ⟨t, p, he⟩ := (hL w hlaid).errR
    refine (Any.strconv_Atoi_range Tryd.laysC172 ⟨s.toArray⟩ (by omega) (by rw [hdt]; exact hh) _ w he (.inr ⟨t, p, rfl⟩)).mono ?_
    rintro e w' ⟨N, rfl, _, _, hb⟩
    rw [hdt]
    exact ⟨_, rfl, hb, tup _ _ _⟩
  | _ =>
    obtain ⟨t, p, he⟩ := (hL w hlaid).errS
    refine (Any.strconv_Atoi_syntax Tryd.laysC172 ⟨s.toArray⟩ (by omega) (by rw [hdt]; exact hh) _ w he (.inr ⟨t, p, rfl⟩)).mono ?_
    rintro e w' ⟨N, rfl, _, _, hb⟩
    exact ⟨_, rfl, hb, tup _ _ _⟩

theorem parse_loop (hP : C.P = Tryd.prog) (hL : ∀ w, C.laid w → LaidW w) (s : List UInt8) : LoopOK C 0 41 (loopC Tryd.f35 3) (L_parse s) := by
  rintro st Q ⟨h0, hs, hQ⟩
  refine AWP.ownNil 4 3 1 ?_
  have hwl : (words s).length ≤ s.length + 2 := by
    have := Lib.count_le s [46]
    rw [words_len]; omega
  refine LoopOK.mk (prg hP) [(42, .det S_atoi)] 0 (.cons (atoi_ok hP hL) .nil) [0, 4, 12, 13, 14] [0, 4] [] (S_paState s) (fun k => k ≤ (words s).length) (fun k => (words s).length - k) 0 (Nat.zero_le _) h0 (fun k hk => ?_) (fun i => ⟨fun _ _ => rfl, trivial⟩)
  rw [nf_parse_round]
  refine condP_dec (fun h => ?_) (fun h => ⟨fun _ _ => rfl, _, rowsEq1, ?_⟩)
  · have hlt : k < (words s).length := by omega
    have hlw : ((words s).getD k []).length ≤ s.length := by
      have := words_le s ((words s).getD k []) (by simp [List.getD, hlt])
      exact this
    have hrow : ∀ i, i < k + 1 → apF k (fun i => [AV.int .i64 (wordV s i)]) (chunkA 1 [.int .i64 (atoiZ ((words s).getD k []))]) i = [.int .i64 (wordV s i)] := by
      intro i hi
      unfold apF
      split
      · rfl
      · have : i = k := by omega
        subst this
        rw [Nat.sub_self]; rfl
    simp only [inR, Int.toNat_natCast]
    and_intros
    any_goals omega
    any_goals (simp; done)
    exact ⟨k + 1, ⟨rfl, ⟨rfl, rfl, rfl, rfl, rfl, hrow⟩, trivial⟩, by omega, by omega⟩
  · have : k = (words s).length := by omega
    rw [this] at *
    exact hQ

theorem parse_ok (hP : C.P = Tryd.prog) (hL : ∀ w, C.laid w → LaidW w) : RSpecOK C 35 R_parse := by
  rintro args objs R h
  unfold R_parse at h
  split at h
  · rename_i s
    obtain ⟨hs, hR⟩ := h
    have hR := condP_elim hR
    refine RSpecOK.wpL (prg hP) [(41, .det S_split), (43, .det S_format)] [(3, L_parse s)] 0 (.cons (split_ok hP hL) (.cons (format_ok hP) .nil)) (hP ▸ Tryd.func35) rfl rfl rfl
      [(loopC Tryd.f35 3, L_parse s)] (by kernel_rfl) ⟨parse_loop hP hL s, trivial⟩ ?_
    rw [nf_parse]
    have hvi : (vInt fun i => [AV.int .i64 (wordV s i)]) = wordV s := rfl
    rw [hvi]
    have hwl : (words s).length ≤ s.length + 2 := by
      have := Lib.count_le s [46]
      rw [words_len]; omega
    refine ⟨⟨hs, rfl⟩, ⟨rfl, ⟨rfl, rfl, rfl, rfl, rfl, fun i hi => by omega⟩, trivial⟩, hs, fun _ _ => rfl, ⟨rfl, rfl, rfl, by omega, rfl⟩, fun _ _ => rfl, ?_⟩
    cases hok : fmtOK (words s).length (wordV s) with
    | false => exact hR.2 (by unfold parseOK; rw [hok]; rfl)
    | true =>
      have e0 : (!decide ((bif true then (0 : Int) else 64) = 0)) = false := rfl
      rw [e0]
      show condP (!decide (fmtZ (words s).length (wordV s) = s)) _ _
      refine condP_ndec (fun h1 => hR.2 ?_) (fun h1 => ⟨fun _ _ => rfl, _, rowsEq1, hR.1 ?_⟩)
      · unfold parseOK; rw [hok, decide_eq_false h1]; rfl
      · unfold parseOK; rw [hok]; exact decide_eq_true h1
  · exact h.elim

end Go.Eng

