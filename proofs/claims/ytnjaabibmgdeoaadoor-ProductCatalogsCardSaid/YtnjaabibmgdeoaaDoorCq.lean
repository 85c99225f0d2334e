/- Lemmas that the tied card of ProductCatalogs is proved by. -/
import Derived.Test.YtnjaabibmgdeoaaDoorCl
import Derived.Test.YtnjaabibmgdeoaaDoorCp
import Derived.Test.YtnjaabibmgdeoaaDoorCj
import Derived.Test.YtnjaabibmgdeoaaDoorCm
/- Codes of classifications. -/
namespace Go.Eng
open Go.Proofs Go.RowKit
set_option maxRecDepth 20000
theorem nf_min (n : Nat) (v : Nat → Int) (R : AV → List (Nat × AObj) → Prop) : wpFn te [] [(5, L_mm n v (minV v)), (1002, fun _ _ => False)] 0 Tryd.f56 [.own 0 n] [.row 3 1 n (fun i => [.int .i64 (v i)]) false] R = (condP (decide ((↑n : Int) < (1 : Int))) False (((0 : Int) ≤ (0 : Int) ∧ (0 : Int) < (↑n : Int)) ∧ (0 < n ∧ 1 = 1) ∧ (TEq [(0, .own 0 n), (3, .int .i64 (v 0)), (4, .int .i64 1)] [(0, .own 0 n), (3, .int .i64 (minV v 0)), (4, .int .i64 ((↑0 : Int) + (1 : Int)))] ∧ RowsEq [(0, .row 3 1 n (fun (i : Nat) => [.int .i64 (v i)]) false)] [(0, .row 3 1 n (fun (i : Nat) => [.int .i64 (v i)]) false)]) ∧ 1 ≤ n ∧ n ≤ 4611686018427387904 ∧ (∀ (i : Nat), i < n → true = true) ∧ ∃ (O' : List (Nat × AObj)), RowsEq [(0, .row 3 1 n (fun (i : Nat) => [.int .i64 (v i)]) false)] O' ∧ R (.int .i64 (minV v (n - 1))) O')) := by kernel_rfl
theorem nf_min_round (n : Nat) (v : Nat → Int) (k : Nat) (P : Nat → Prop) (R : Exit → St → Prop) : roundP ⟨te, [], [], 1, 25, 0⟩ (loopB Tryd.f56 5) [0, 3, 4] [3] [] (S_mmState n v (minV v)) P R (S_mmState n v (minV v) k) = (condP (decide ((↑k : Int) + (1 : Int) < (↑n : Int))) (((0 : Int) ≤ (↑k : Int) + (1 : Int) ∧ (↑k : Int) + (1 : Int) < (↑n : Int)) ∧ (Int.toNat ((↑k : Int) + (1 : Int)) < n ∧ 1 = 1) ∧ inR .i64 ((↑k : Int) + (1 : Int) + (1 : Int)) ∧ ∃ (i' : Nat), (TEq [(0, .own 0 n), (3, .int .i64 (min (minV v k) (v (Int.toNat ((↑k : Int) + (1 : Int)))))), (4, .int .i64 ((↑k : Int) + (1 : Int) + (1 : Int)))] [(0, .own 0 n), (3, .int .i64 (minV v i')), (4, .int .i64 ((↑i' : Int) + (1 : Int)))] ∧ RowsEq [(0, .row 3 1 n (fun (i : Nat) => [.int .i64 (v i)]) false)] [(0, .row 3 1 n (fun (i : Nat) => [.int .i64 (v i)]) false)]) ∧ P i') ((∀ (i : Nat), i < n → true = true) ∧ ∃ (O' : List (Nat × AObj)), RowsEq [(0, .row 3 1 n (fun (i : Nat) => [.int .i64 (v i)]) false)] O' ∧ R (.exit 0) (St.mk [(3, .int .i64 (minV v k))] O' 1 []))) := by kernel_rfl
theorem nf_max (n : Nat) (v : Nat → Int) (R : AV → List (Nat × AObj) → Prop) : wpFn te [] [(5, L_mm n v (maxV v)), (1002, fun _ _ => False)] 0 Tryd.f57 [.own 0 n] [.row 3 1 n (fun i => [.int .i64 (v i)]) false] R = (condP (decide ((↑n : Int) < (1 : Int))) False (((0 : Int) ≤ (0 : Int) ∧ (0 : Int) < (↑n : Int)) ∧ (0 < n ∧ 1 = 1) ∧ (TEq [(0, .own 0 n), (3, .int .i64 (v 0)), (4, .int .i64 1)] [(0, .own 0 n), (3, .int .i64 (maxV v 0)), (4, .int .i64 ((↑0 : Int) + (1 : Int)))] ∧ RowsEq [(0, .row 3 1 n (fun (i : Nat) => [.int .i64 (v i)]) false)] [(0, .row 3 1 n (fun (i : Nat) => [.int .i64 (v i)]) false)]) ∧ 1 ≤ n ∧ n ≤ 4611686018427387904 ∧ (∀ (i : Nat), i < n → true = true) ∧ ∃ (O' : List (Nat × AObj)), RowsEq [(0, .row 3 1 n (fun (i : Nat) => [.int .i64 (v i)]) false)] O' ∧ R (.int .i64 (maxV v (n - 1))) O')) := by kernel_rfl
theorem nf_max_round (n : Nat) (v : Nat → Int) (k : Nat) (P : Nat → Prop) (R : Exit → St → Prop) : roundP ⟨te, [], [], 1, 25, 0⟩ (loopB Tryd.f57 5) [0, 3, 4] [3] [] (S_mmState n v (maxV v)) P R (S_mmState n v (maxV v) k) = (condP (decide ((↑k : Int) + (1 : Int) < (↑n : Int))) (((0 : Int) ≤ (↑k : Int) + (1 : Int) ∧ (↑k : Int) + (1 : Int) < (↑n : Int)) ∧ (Int.toNat ((↑k : Int) + (1 : Int)) < n ∧ 1 = 1) ∧ inR .i64 ((↑k : Int) + (1 : Int) + (1 : Int)) ∧ ∃ (i' : Nat), (TEq [(0, .own 0 n), (3, .int .i64 (max (maxV v k) (v (Int.toNat ((↑k : Int) + (1 : Int)))))), (4, .int .i64 ((↑k : Int) + (1 : Int) + (1 : Int)))] [(0, .own 0 n), (3, .int .i64 (maxV v i')), (4, .int .i64 ((↑i' : Int) + (1 : Int)))] ∧ RowsEq [(0, .row 3 1 n (fun (i : Nat) => [.int .i64 (v i)]) false)] [(0, .row 3 1 n (fun (i : Nat) => [.int .i64 (v i)]) false)]) ∧ P i') ((∀ (i : Nat), i < n → true = true) ∧ ∃ (O' : List (Nat × AObj)), RowsEq [(0, .row 3 1 n (fun (i : Nat) => [.int .i64 (v i)]) false)] O' ∧ R (.exit 0) (St.mk [(3, .int .i64 (maxV v k))] O' 1 []))) := by kernel_rfl
theorem nf_format (n : Nat) (v : Nat → Int) (R : AV → List (Nat × AObj) → Prop) : wpFn te [(56, .det S_min), (57, .det S_max), (58, .det S_itoa)] [(7, L_fmt n v)] 0 Tryd.f43 [.own 0 n] [.row 3 1 n (fun i => [.int .i64 (v i)]) false] R = (condP (decide ((↑n : Int) < (1 : Int))) ((∀ (i : Nat), i < n → true = true) ∧ ∃ (O' : List (Nat × AObj)), RowsEq [(0, .row 3 1 n (fun (i : Nat) => [.int .i64 (v i)]) false)] O' ∧ R (.tuple [.str [], .int .i64 64]) O') (condP (decide ((5 : Int) < (↑n : Int))) ((∀ (i : Nat), i < n → true = true) ∧ ∃ (O' : List (Nat × AObj)), RowsEq [(0, .row 3 1 n (fun (i : Nat) => [.int .i64 (v i)]) false)] O' ∧ R (.tuple [.str [], .int .i64 64]) O') ((∀ (i : Nat), i < n → true = true) ∧ (3 = 3 ∧ false = false ∧ 1 ≤ n ∧ n = n ∧ n ≤ 4611686018427387904 ∧ (fun (i : Nat) => [.int .i64 (v i)]) = intRow (vInt fun (i : Nat) => [.int .i64 (v i)])) ∧ (∀ (i : Nat), i < n → true = true) ∧ condP (decide (minV (vInt fun (i : Nat) => [.int .i64 (v i)]) (n - 1) < (1 : Int))) ((∀ (i : Nat), i < n → true = true) ∧ ∃ (O' : List (Nat × AObj)), RowsEq [(0, .row 3 1 n (fun (i : Nat) => [.int .i64 (v i)]) false)] O' ∧ R (.tuple [.str [], .int .i64 64]) O') ((∀ (i : Nat), i < n → true = true) ∧ (3 = 3 ∧ false = false ∧ 1 ≤ n ∧ n = n ∧ n ≤ 4611686018427387904 ∧ (fun (i : Nat) => [.int .i64 (v i)]) = intRow (vInt fun (i : Nat) => [.int .i64 (v i)])) ∧ (∀ (i : Nat), i < n → true = true) ∧ condP (decide ((99 : Int) < maxV (vInt fun (i : Nat) => [.int .i64 (v i)]) (n - 1))) ((∀ (i : Nat), i < n → true = true) ∧ ∃ (O' : List (Nat × AObj)), RowsEq [(0, .row 3 1 n (fun (i : Nat) => [.int .i64 (v i)]) false)] O' ∧ R (.tuple [.str [], .int .i64 64]) O') (((0 : Int) ≤ (0 : Int) ∧ (0 : Int) < (↑n : Int)) ∧ (0 < n ∧ 1 = 1) ∧ ((0 : Int) ≤ v 0 ∧ v 0 < (100 : Int)) ∧ ((0 : Int) ≤ (0 : Int) ∧ (0 : Int) < (↑n : Int)) ∧ (0 < n ∧ 1 = 1) ∧ condP (decide (v 0 < (10 : Int))) (List.length ([(48 : UInt8)]) + List.length (decF (v 0)) ≤ 9223372036854775807 ∧ ((0 : Int) ≤ (1 : Int) ∧ (1 : Int) ≤ (↑n : Int)) ∧ (TEq [(4, .str ([(48 : UInt8)] ++ decF (v 0))), (36, .sub 0 1 1 (n - Int.toNat (1 : Int))), (37, .int .i64 (↑(n - Int.toNat (1 : Int)) : Int)), (38, .int .i64 0)] [(4, .str (fmtHead (v 0) ++ fmtRest v 0)), (36, .sub 0 1 1 (n - 1)), (37, .int .i64 (↑(n - 1) : Int)), (38, .int .i64 (↑0 : Int))] ∧ RowsEq [(0, .row 3 1 n (fun (i : Nat) => [.int .i64 (v i)]) false)] [(0, .row 3 1 n (fun (i : Nat) => [.int .i64 (v i)]) false)]) ∧ fmtOK n v = true ∧ (∀ (i : Nat), i < n → true = true) ∧ ∃ (O' : List (Nat × AObj)), RowsEq [(0, .row 3 1 n (fun (i : Nat) => [.int .i64 (v i)]) false)] O' ∧ R (.tuple [.str (fmtZ n v), .int .i64 0]) O') (((0 : Int) ≤ (1 : Int) ∧ (1 : Int) ≤ (↑n : Int)) ∧ (TEq [(4, .str (decF (v 0))), (36, .sub 0 1 1 (n - Int.toNat (1 : Int))), (37, .int .i64 (↑(n - Int.toNat (1 : Int)) : Int)), (38, .int .i64 0)] [(4, .str (fmtHead (v 0) ++ fmtRest v 0)), (36, .sub 0 1 1 (n - 1)), (37, .int .i64 (↑(n - 1) : Int)), (38, .int .i64 (↑0 : Int))] ∧ RowsEq [(0, .row 3 1 n (fun (i : Nat) => [.int .i64 (v i)]) false)] [(0, .row 3 1 n (fun (i : Nat) => [.int .i64 (v i)]) false)]) ∧ fmtOK n v = true ∧ (∀ (i : Nat), i < n → true = true) ∧ ∃ (O' : List (Nat × AObj)), RowsEq [(0, .row 3 1 n (fun (i : Nat) => [.int .i64 (v i)]) false)] O' ∧ R (.tuple [.str (fmtZ n v), .int .i64 0]) O')))))) := by kernel_rfl
theorem nf_format_round (n : Nat) (v : Nat → Int) (k : Nat) (P : Nat → Prop) (R : Exit → St → Prop) : roundP ⟨te, [(58, .det S_itoa)], [], 1, 49, 0⟩ (loopB Tryd.f43 7) [4, 36, 37, 38] [4] [] (S_fmtState n v) P R (S_fmtState n v k) = (condP (decide ((↑k : Int) < (↑(n - 1) : Int))) (((0 : Int) ≤ (↑k : Int) ∧ (↑k : Int) < (↑(n - 1) : Int) ∧ 1 = 1) ∧ (1 + Int.toNat (↑k : Int) < n ∧ 1 = 1) ∧ ((0 : Int) ≤ v (1 + Int.toNat (↑k : Int)) ∧ v (1 + Int.toNat (↑k : Int)) < (100 : Int)) ∧ List.length ([(46 : UInt8)]) + List.length (decF (v (1 + Int.toNat (↑k : Int)))) ≤ 9223372036854775807 ∧ List.length (fmtHead (v 0) ++ fmtRest v k) + List.length ([(46 : UInt8)] ++ decF (v (1 + Int.toNat (↑k : Int)))) ≤ 9223372036854775807 ∧ inR .i64 ((↑k : Int) + (1 : Int)) ∧ ∃ (i' : Nat), (TEq [(4, .str (fmtHead (v 0) ++ fmtRest v k ++ ([(46 : UInt8)] ++ decF (v (1 + Int.toNat (↑k : Int)))))), (36, .sub 0 1 1 (n - 1)), (37, .int .i64 (↑(n - 1) : Int)), (38, .int .i64 ((↑k : Int) + (1 : Int)))] [(4, .str (fmtHead (v 0) ++ fmtRest v i')), (36, .sub 0 1 1 (n - 1)), (37, .int .i64 (↑(n - 1) : Int)), (38, .int .i64 (↑i' : Int))] ∧ RowsEq [(0, .row 3 1 n (fun (i : Nat) => [.int .i64 (v i)]) false)] [(0, .row 3 1 n (fun (i : Nat) => [.int .i64 (v i)]) false)]) ∧ P i') ((∀ (i : Nat), i < n → true = true) ∧ ∃ (O' : List (Nat × AObj)), RowsEq [(0, .row 3 1 n (fun (i : Nat) => [.int .i64 (v i)]) false)] O' ∧ R (.exit 0) (St.mk [(4, .str (fmtHead (v 0) ++ fmtRest v k))] O' 1 []))) := by kernel_rfl

variable {C : Ctx}

theorem min_loop (hP : C.P = Tryd.prog) (n : Nat) (v : Nat → Int) : LoopOK C 1 25 (loopC Tryd.f56 5) (L_mm n v (minV v)) := by
  rintro st Q ⟨h0, hn, hn2, hQ⟩
  refine LoopOK.mk (prg hP) [] 0 .nil [0, 3, 4] [3] [] (S_mmState n v (minV v)) (fun k => k + 1 ≤ n) (fun k => n - k) 0 hn h0 (fun k hk => ?_) (fun i => ⟨fun _ _ => rfl, trivial⟩)
  rw [nf_min_round]
  refine condP_dec (fun h => ?_) (fun h => ⟨fun _ _ => rfl, _, rowsEq1, ?_⟩)
  · have e : ((k : Int) + 1).toNat = k + 1 := by omega
    simp only [inR, e, and_true]
    exact ⟨by omega, by omega, by omega, k + 1, ⟨rfl, rowsEq1⟩, by omega, by omega⟩
  · have : k = n - 1 := by omega
    rw [this]; exact hQ

theorem max_loop (hP : C.P = Tryd.prog) (n : Nat) (v : Nat → Int) : LoopOK C 1 25 (loopC Tryd.f57 5) (L_mm n v (maxV v)) := by
  rintro st Q ⟨h0, hn, hn2, hQ⟩
  refine LoopOK.mk (prg hP) [] 0 .nil [0, 3, 4] [3] [] (S_mmState n v (maxV v)) (fun k => k + 1 ≤ n) (fun k => n - k) 0 hn h0 (fun k hk => ?_) (fun i => ⟨fun _ _ => rfl, trivial⟩)
  rw [nf_max_round]
  refine condP_dec (fun h => ?_) (fun h => ⟨fun _ _ => rfl, _, rowsEq1, ?_⟩)
  · have e : ((k : Int) + 1).toNat = k + 1 := by omega
    simp only [inR, e, and_true]
    exact ⟨by omega, by omega, by omega, k + 1, ⟨rfl, rowsEq1⟩, by omega, by omega⟩
  · have : k = n - 1 := by omega
    rw [this]; exact hQ

theorem min_ok (hP : C.P = Tryd.prog) : SpecOK C 56 S_min := by
  rintro args objs U Os vc h hvc
  unfold S_min at h
  split at h <;> simp only [Option.some.injEq, Prod.mk.injEq, reduceCtorEq] at h
  rename_i n t m f fr
  obtain ⟨rfl, rfl, rfl⟩ := h
  obtain ⟨rfl, rfl, hn, rfl, hn2, hf⟩ := hvc
  generalize vInt f = v at hf
  subst hf
  refine SpecOK.wpL (prg hP) [] [(5, L_mm n v (minV v)), (1002, fun _ _ => False)] 0 .nil (hP ▸ Tryd.func56) rfl rfl rfl
    [(regC Tryd.f56 2, fun _ _ => False), (loopC Tryd.f56 5, L_mm n v (minV v))] (by kernel_rfl) ⟨fun _ _ h => h.elim, min_loop hP n v, trivial⟩ ?_
  show wpFn _ _ _ _ _ _ [.row _ _ _ (fun i => [.int .i64 (v i)]) _] _
  rw [nf_min]
  exact condP_dec (fun h => absurd h (by omega)) (fun _ => ⟨by omega, by omega, ⟨rfl, rowsEq1⟩, hn, hn2, fun _ _ => rfl, _, rowsEq1, rfl, rfl⟩)

theorem max_ok (hP : C.P = Tryd.prog) : SpecOK C 57 S_max := by
  rintro args objs U Os vc h hvc
  unfold S_max at h
  split at h <;> simp only [Option.some.injEq, Prod.mk.injEq, reduceCtorEq] at h
  rename_i n t m f fr
  obtain ⟨rfl, rfl, rfl⟩ := h
  obtain ⟨rfl, rfl, hn, rfl, hn2, hf⟩ := hvc
  generalize vInt f = v at hf
  subst hf
  refine SpecOK.wpL (prg hP) [] [(5, L_mm n v (maxV v)), (1002, fun _ _ => False)] 0 .nil (hP ▸ Tryd.func57) rfl rfl rfl
    [(regC Tryd.f57 2, fun _ _ => False), (loopC Tryd.f57 5, L_mm n v (maxV v))] (by kernel_rfl) ⟨fun _ _ h => h.elim, max_loop hP n v, trivial⟩ ?_
  show wpFn _ _ _ _ _ _ [.row _ _ _ (fun i => [.int .i64 (v i)]) _] _
  rw [nf_max]
  exact condP_dec (fun h => absurd h (by omega)) (fun _ => ⟨by omega, by omega, ⟨rfl, rowsEq1⟩, hn, hn2, fun _ _ => rfl, _, rowsEq1, rfl, rfl⟩)

theorem itoa_ok (hP : C.P = Tryd.prog) : SpecOK C 58 S_itoa := by
  rintro args objs U Os vc h hvc
  unfold S_itoa at h
  split at h <;> simp only [Option.some.injEq, Prod.mk.injEq, reduceCtorEq] at h
  rename_i n
  obtain ⟨rfl, rfl, rfl⟩ := h
  obtain ⟨i, rfl⟩ : ∃ i : Nat, n = i := ⟨n.toNat, by omega⟩
  refine ACalls.below ⟨Tryd.f58, hP ▸ Tryd.func58, rfl, by decide⟩ fun w M cargs _ _ hM hl hv => ?_
  obtain ⟨a, rfl⟩ := mem1 hl
  have := (hv 0 _ _ rfl rfl).int_iff
  subst this
  rw [hP]
  refine (Tryd.strconv_Itoa_small i (by omega) w).mono ?_
  rintro e w' ⟨rfl, rfl⟩
  exact ⟨_, rfl, Below.refl _ _, .str (by simp [decF])⟩

theorem format_loop (hP : C.P = Tryd.prog) (n : Nat) (v : Nat → Int) : LoopOK C 1 49 (loopC Tryd.f43 7) (L_fmt n v) := by
  rintro st Q ⟨h0, hok, hQ⟩
  have hv := fmtOK_at hok
  have hn := fmtOK_n hok
  refine LoopOK.mk (prg hP) [(58, .det S_itoa)] 0 (.cons (itoa_ok hP) .nil) [4, 36, 37, 38] [4] [] (S_fmtState n v) (fun k => k ≤ n - 1) (fun k => n - k) 0 (Nat.zero_le _) h0 (fun k hk => ?_) (fun i => ⟨fun _ _ => rfl, trivial⟩)
  rw [nf_format_round]
  have hl1 := fmtHead_len (hv 0 (by omega))
  have hl2 := fmtRest_len (n := n) (fun i hi => hv i hi) k (by omega)
  refine condP_dec (fun h => ?_) (fun h => ⟨fun _ _ => rfl, _, rowsEq1, ?_⟩)
  · have hlt : k < n - 1 := by omega
    have e : 1 + (k : Int).toNat = k + 1 := by omega
    have hk1 := hv (k + 1) (by omega)
    have hl3 := decF_len hk1
    simp only [inR, e, and_true, List.length_append, List.length_cons, List.length_nil]
    refine ⟨by omega, by omega, by omega, by omega, by omega, by omega, k + 1, ⟨?_, rowsEq1⟩, by omega, by omega⟩
    unfold TEq
    rw [show fmtRest v (k + 1) = fmtRest v k ++ (46 :: decF (v (k + 1))) from rfl]
    simp
  · have : k = n - 1 := by omega
    rw [this]; exact hQ

theorem format_ok (hP : C.P = Tryd.prog) : SpecOK C 43 S_format := by
  rintro args objs U Os vc h hvc
  unfold S_format at h
  split at h <;> simp only [Option.some.injEq, Prod.mk.injEq, reduceCtorEq] at h
  rename_i n t m f fr
  obtain ⟨rfl, rfl, rfl⟩ := h
  obtain ⟨rfl, rfl, rfl, hn2, hf⟩ := hvc
  generalize vInt f = v at hf
  subst hf
  refine SpecOK.wpL (prg hP) [(56, .det S_min), (57, .det S_max), (58, .det S_itoa)] [(7, L_fmt n v)] 0 (.cons (min_ok hP) (.cons (max_ok hP) (.cons (itoa_ok hP) .nil))) (hP ▸ Tryd.func43) rfl rfl rfl
    [(loopC Tryd.f43 7, L_fmt n v)] (by kernel_rfl) ⟨format_loop hP n v, trivial⟩ ?_
  show wpFn _ _ _ _ _ _ [.row _ _ _ (fun i => [.int .i64 (v i)]) _] _
  rw [nf_format]
  have hvi : (vInt fun i => [AV.int .i64 (v i)]) = v := rfl
  rw [hvi]
  have bad : fmtOK n v = false → (AV.tuple [.str [], .int .i64 64] = .tuple [.str (bif fmtOK n v then fmtZ n v else []), .int .i64 (bif fmtOK n v then 0 else 64)]) := fun h => by rw [h]; rfl
  have good : fmtOK n v = true → (AV.tuple [.str (fmtZ n v), .int .i64 0] = .tuple [.str (bif fmtOK n v then fmtZ n v else []), .int .i64 (bif fmtOK n v then 0 else 64)]) := fun h => by rw [h]; rfl
  refine condP_dec (fun h1 => ⟨fun _ _ => rfl, _, rowsEq1, bad ?_, rfl⟩) (fun h1 => condP_dec (fun h2 => ⟨fun _ _ => rfl, _, rowsEq1, bad ?_, rfl⟩) (fun h2 => ⟨fun _ _ => rfl, ⟨rfl, rfl, by omega, rfl, hn2, rfl⟩, fun _ _ => rfl,
    condP_dec (fun h3 => ⟨fun _ _ => rfl, _, rowsEq1, bad ?_, rfl⟩) (fun h3 => ⟨fun _ _ => rfl, ⟨rfl, rfl, by omega, rfl, hn2, rfl⟩, fun _ _ => rfl, condP_dec (fun h4 => ⟨fun _ _ => rfl, _, rowsEq1, bad ?_, rfl⟩) (fun h4 => ?_)⟩)⟩))
  · unfold fmtOK; rw [decide_eq_false (p := 1 ≤ n) (by omega)]; rfl
  · unfold fmtOK; rw [decide_eq_false (p := n ≤ 5) (by omega)]; simp
  · unfold fmtOK; rw [decide_eq_false (p := 1 ≤ minV v (n - 1)) (by omega)]; simp
  · unfold fmtOK; rw [decide_eq_false (p := maxV v (n - 1) ≤ 99) (by omega)]; simp
  · have hok : fmtOK n v = true := by
      unfold fmtOK
      rw [decide_eq_true (p := 1 ≤ n) (by omega), decide_eq_true (p := n ≤ 5) (by omega), decide_eq_true (p := 1 ≤ minV v (n - 1)) (by omega), decide_eq_true (p := maxV v (n - 1) ≤ 99) (by omega)]; rfl
    have hv := fmtOK_at hok 0 (by omega)
    have hl3 := decF_len hv
    refine ⟨by omega, ⟨by omega, rfl⟩, by omega, by omega, ⟨by omega, rfl⟩, condP_dec (fun h5 => ⟨by simp only [List.length_cons, List.length_nil]; omega, by omega, ⟨?_, rowsEq1⟩, hok, fun _ _ => rfl, _, rowsEq1, good hok, rfl⟩) (fun h5 => ⟨by omega, ⟨?_, rowsEq1⟩, hok, fun _ _ => rfl, _, rowsEq1, good hok, rfl⟩)⟩
    · unfold TEq fmtHead
      rw [decide_eq_true h5]
      simp [fmtRest]
    · unfold TEq fmtHead
      rw [decide_eq_false h5]
      simp [fmtRest]

end Go.Eng
/- Codes of classifications: the words of a code, their numbers, the parts. -/
namespace Go.Eng
open Go.Proofs Go.RowKit
set_option maxRecDepth 20000

theorem nf_parse (s : List UInt8) (R : AV → List (Nat × AObj) → Prop) : wpFn te [(41, .det S_split), (43, .det S_format)] [(3, L_parse s)] 0 Tryd.f35 [.str s] [] R = ((List.length s < 4294967281 ∧ [(46 : UInt8)] = [(46 : UInt8)]) ∧ (TEq [(0, .str s), (4, .own 0 0), (12, .view 1 (List.length (words s)) fun (i : Nat) => [.str (List.getD (words s) i [])]), (13, .int .i64 (↑(List.length (words s)) : Int)), (14, .int .i64 0)] [(0, .str s), (4, .own 0 0), (12, .view 1 (List.length (words s)) fun (i : Nat) => [.str (List.getD (words s) i [])]), (13, .int .i64 (↑(List.length (words s)) : Int)), (14, .int .i64 (↑0 : Int))] ∧ RowsEq [(0, .row 3 1 0 (fun (x : Nat) => []) false)] [(0, .row 3 1 0 (fun (i : Nat) => [.int .i64 (wordV s i)]) false)]) ∧ List.length s < 4294967281 ∧ (∀ (i : Nat), i < List.length (words s) → true = true) ∧ (3 = 3 ∧ false = false ∧ List.length (words s) = List.length (words s) ∧ List.length (words s) ≤ 4611686018427387904 ∧ (fun (i : Nat) => [.int .i64 (wordV s i)]) = intRow (vInt fun (i : Nat) => [.int .i64 (wordV s i)])) ∧ (∀ (i : Nat), i < List.length (words s) → true = true) ∧ condP (!decide ((bif fmtOK (List.length (words s)) (vInt fun (i : Nat) => [.int .i64 (wordV s i)]) then (0 : Int) else (64 : Int)) = (0 : Int))) (R (.tuple [.nil, .int .i64 60]) []) (condP (!decide ((bif fmtOK (List.length (words s)) (vInt fun (i : Nat) => [.int .i64 (wordV s i)]) then fmtZ (List.length (words s)) (vInt fun (i : Nat) => [.int .i64 (wordV s i)]) else []) = s)) (R (.tuple [.nil, .int .i64 60]) []) ((∀ (i : Nat), i < List.length (words s) → true = true) ∧ ∃ (O' : List (Nat × AObj)), RowsEq [(0, .row 3 1 (List.length (words s)) (fun (i : Nat) => [.int .i64 (wordV s i)]) false)] O' ∧ R (.tuple [.own 0 (List.length (words s)), .int .i64 0]) O'))) := by kernel_rfl
theorem nf_parse_round (s : List UInt8) (k : Nat) (P : Nat → Prop) (R : Exit → St → Prop) : roundP ⟨te, [(42, .det S_atoi)], [], 0, 41, 0⟩ (loopB Tryd.f35 3) [0, 4, 12, 13, 14] [0, 4] [] (S_paState s) P R (S_paState s k) = (condP (decide ((↑k : Int) < (↑(List.length (words s)) : Int))) (((0 : Int) ≤ (↑k : Int) ∧ (↑k : Int) < (↑(List.length (words s)) : Int) ∧ 1 = 1) ∧ List.length (List.getD (words s) (Int.toNat (↑k : Int)) []) ≤ 281474976710656 ∧ (1 ≤ 16777216 ∧ 1 = 1 ∧ 1 ≤ 9223372036854775807) ∧ ((1 ≤ 1 ∧ 1 = 1) ∧ k ≤ k ∧ 1 = 1 ∧ 3 = 3 ∧ 1 = 1 ∧ k + 1 ≤ 9223372036854775807 ∧ (k + 1) * TI.bytes (TI.mk (TypeDesc.int IntKind.i64) 1 8 (Value.int IntKind.i64 0) false) ≤ 140737488355328) ∧ inR .i64 ((↑k : Int) + (1 : Int)) ∧ ∃ (i' : Nat), (TEq [(0, .str s), (4, .own 0 (k + 1)), (12, .view 1 (List.length (words s)) fun (i : Nat) => [.str (List.getD (words s) i [])]), (13, .int .i64 (↑(List.length (words s)) : Int)), (14, .int .i64 ((↑k : Int) + (1 : Int)))] [(0, .str s), (4, .own 0 i'), (12, .view 1 (List.length (words s)) fun (i : Nat) => [.str (List.getD (words s) i [])]), (13, .int .i64 (↑(List.length (words s)) : Int)), (14, .int .i64 (↑i' : Int))] ∧ RowsEq [(0, .row 3 1 (k + 1) (apF k (fun (i : Nat) => [.int .i64 (wordV s i)]) (chunkA (TI.sz (TI.mk (TypeDesc.int IntKind.i64) 1 8 (Value.int IntKind.i64 0) false)) (.int .i64 (atoiZ (List.getD (words s) (Int.toNat (↑k : Int)) [])) :: List.append [] (List.flatten (List.replicate (nat_lit 0) [.int .i64 0]))))) false)] [(0, .row 3 1 i' (fun (i : Nat) => [.int .i64 (wordV s i)]) false)]) ∧ P i') ((∀ (i : Nat), i < k → true = true) ∧ ∃ (O' : List (Nat × AObj)), RowsEq [(0, .row 3 1 k (fun (i : Nat) => [.int .i64 (wordV s i)]) false)] O' ∧ R (.exit 0) (St.mk [(0, .str s), (4, .own 0 k)] O' 1 []))) := by kernel_rfl

variable {C : Ctx}

theorem split_ok (hP : C.P = Tryd.prog) (hL : ∀ w, C.laid w → LaidW w) : SpecOK C 41 S_split := by
  rintro args objs U Os vc h hvc
  unfold S_split at h
  split at h <;> simp only [Option.some.injEq, Prod.mk.injEq, reduceCtorEq] at h
  rename_i s sep
  obtain ⟨rfl, rfl, rfl⟩ := h
  obtain ⟨hs, rfl⟩ := hvc
  refine ACalls.below ⟨Tryd.f41, hP ▸ Tryd.func41, rfl, by decide⟩ fun w M cargs hlaid _ hM hl hv => ?_
  obtain ⟨m, hm⟩ := (hL w hlaid).maxLen
  obtain ⟨a, b, rfl⟩ := mem2 hl
  have e1 := (hv 0 _ _ rfl rfl).str_iff
  have e2 := (hv 1 _ _ rfl rfl).str_iff
  subst e1; subst e2
  rw [hP]
  refine (Tryd.strings_Split ⟨s.toArray⟩ ⟨#[46]⟩ m w (by simpa [ByteArray.size] using hs) hm (by decide)).mono ?_
  rintro e w' ⟨rfl, rfl⟩
  have hd := Lib.splitB_data ⟨#[46]⟩ 0 (Lib.countB ⟨s.toArray⟩ ⟨#[46]⟩) ⟨s.toArray⟩
  have hw : (Lib.splitB ⟨#[46]⟩ 0 (Lib.countB ⟨s.toArray⟩ ⟨#[46]⟩) ⟨s.toArray⟩).map (·.data.toList) = words s := by
    rw [hd]
    simp [words, Lib.split]
  have hlen : (Lib.splitB ⟨#[46]⟩ 0 (Lib.countB ⟨s.toArray⟩ ⟨#[46]⟩) ⟨s.toArray⟩).length = (words s).length := by rw [← hw]; simp
  have hcnt : Lib.countB ⟨s.toArray⟩ ⟨#[46]⟩ + 1 = (words s).length := by
    rw [words_len]
  refine ⟨_, rfl, (Below.refl _ _).alloc (Nat.le_refl _) _, ?_⟩
  rw [hcnt]
  have hle := Lib.count_le s [46]
  refine V.newview hM (by simp [hlen]) (by rw [words_len]; unfold maxLen; omega) (fun i v hv => ?_) (fun i v hv => ?_)
  · rw [List.getElem?_toArray, List.getElem?_map] at hv
    obtain ⟨x, _, rfl⟩ := Option.map_eq_some_iff.1 hv
    exact rfl
  · simp at hv
    obtain ⟨x, hx, rfl⟩ := hv
    refine ⟨_, rfl, .str ?_⟩
    have : (words s)[i]? = some x.data.toList := by rw [← hw]; simp [hx]
    simp [List.getD, this]

theorem atoi_ok (hP : C.P = Tryd.prog) (hL : ∀ w, C.laid w → LaidW w) : SpecOK C 42 S_atoi := by
  rintro args objs U Os vc h hvc
  unfold S_atoi at h
  split at h <;> simp only [Option.some.injEq, Prod.mk.injEq, reduceCtorEq] at h
  rename_i s
  obtain ⟨rfl, rfl, rfl⟩ := h
  refine ACalls.below ⟨Tryd.f42, hP ▸ Tryd.func42, rfl, by decide⟩ fun w M cargs hlaid _ hM hl hv => ?_
  obtain ⟨a, rfl⟩ := mem1 hl
  have e1 := (hv 0 _ _ rfl rfl).str_iff
  subst e1
  rw [hP]
  have hsz : (⟨s.toArray⟩ : ByteArray).size = s.length := by simp [ByteArray.size]
  have hdt : (⟨s.toArray⟩ : ByteArray).data.toList = s := by simp
  have tup : ∀ (w' : World) (n : Int) (e : Value), V w' M nob (.tuple #[.int .i64 n, e]) (.tuple [.int .i64 n, .any]) := fun w' n e => .tuple rfl fun j v u hv hu => by
    match j with
    | 0 => simp at hv hu; subst hv; subst hu; exact .int
    | 1 => simp at hv hu; subst hv; subst hu; exact .any
    | j + 2 => simp at hv
  unfold atoiZ
  cases hh : Lib.atoiAll s with
  | ok v =>
    refine (Tryd.strconv_Atoi_ok ⟨s.toArray⟩ (by omega) v (by rw [hdt]; exact hh) w).mono ?_
    rintro e w' ⟨rfl, hw⟩
    refine ⟨_, rfl, ?_, tup _ _ _⟩
    rcases hw with rfl | ⟨t, rfl⟩
    · exact Below.refl _ _
    · exact Lib.bytesWorld_below _ _ _
  | range =>
    obtain ⟨t, p, he⟩ := (hL w hlaid).errR
    refine (Any.strconv_Atoi_range Tryd.laysC172 ⟨s.toArray⟩ (by omega) (by rw [hdt]; exact hh) _ w he (.inr ⟨t, p, rfl⟩)).mono ?_
    rintro e w' ⟨N, rfl, _, _, hb⟩
    rw [hdt]
    exact ⟨_, rfl, hb, tup _ _ _⟩
  | _ =>
    obtain ⟨t, p, he⟩ := (hL w hlaid).errS
    refine (Any.strconv_Atoi_syntax Tryd.laysC172 ⟨s.toArray⟩ (by omega) (by rw [hdt]; exact hh) _ w he (.inr ⟨t, p, rfl⟩)).mono ?_
    rintro e w' ⟨N, rfl, _, _, hb⟩
    exact ⟨_, rfl, hb, tup _ _ _⟩

theorem parse_loop (hP : C.P = Tryd.prog) (hL : ∀ w, C.laid w → LaidW w) (s : List UInt8) : LoopOK C 0 41 (loopC Tryd.f35 3) (L_parse s) := by
  rintro st Q ⟨h0, hs, hQ⟩
  refine AWP.ownNil 4 3 1 ?_
  have hwl : (words s).length ≤ s.length + 2 := by
    have := Lib.count_le s [46]
    rw [words_len]; omega
  refine LoopOK.mk (prg hP) [(42, .det S_atoi)] 0 (.cons (atoi_ok hP hL) .nil) [0, 4, 12, 13, 14] [0, 4] [] (S_paState s) (fun k => k ≤ (words s).length) (fun k => (words s).length - k) 0 (Nat.zero_le _) h0 (fun k hk => ?_) (fun i => ⟨fun _ _ => rfl, trivial⟩)
  rw [nf_parse_round]
  refine condP_dec (fun h => ?_) (fun h => ⟨fun _ _ => rfl, _, rowsEq1, ?_⟩)
  · have hlt : k < (words s).length := by omega
    have hlw : ((words s).getD k []).length ≤ s.length := by
      have := words_le s ((words s).getD k []) (by simp [List.getD, hlt])
      exact this
    have hrow : ∀ i, i < k + 1 → apF k (fun i => [AV.int .i64 (wordV s i)]) (chunkA 1 [.int .i64 (atoiZ ((words s).getD k []))]) i = [.int .i64 (wordV s i)] := by
      intro i hi
      unfold apF
      split
      · rfl
      · have : i = k := by omega
        subst this
        rw [Nat.sub_self]; rfl
    simp only [inR, Int.toNat_natCast]
    and_intros
    any_goals omega
    any_goals (simp; done)
    exact ⟨k + 1, ⟨rfl, ⟨rfl, rfl, rfl, rfl, rfl, hrow⟩, trivial⟩, by omega, by omega⟩
  · have : k = (words s).length := by omega
    rw [this] at *
    exact hQ

theorem parse_ok (hP : C.P = Tryd.prog) (hL : ∀ w, C.laid w → LaidW w) : RSpecOK C 35 R_parse := by
  rintro args objs R h
  unfold R_parse at h
  split at h
  · rename_i s
    obtain ⟨hs, hR⟩ := h
    have hR := condP_elim hR
    refine RSpecOK.wpL (prg hP) [(41, .det S_split), (43, .det S_format)] [(3, L_parse s)] 0 (.cons (split_ok hP hL) (.cons (format_ok hP) .nil)) (hP ▸ Tryd.func35) rfl rfl rfl
      [(loopC Tryd.f35 3, L_parse s)] (by kernel_rfl) ⟨parse_loop hP hL s, trivial⟩ ?_
    rw [nf_parse]
    have hvi : (vInt fun i => [AV.int .i64 (wordV s i)]) = wordV s := rfl
    rw [hvi]
    have hwl : (words s).length ≤ s.length + 2 := by
      have := Lib.count_le s [46]
      rw [words_len]; omega
    refine ⟨⟨hs, rfl⟩, ⟨rfl, ⟨rfl, rfl, rfl, rfl, rfl, fun i hi => by omega⟩, trivial⟩, hs, fun _ _ => rfl, ⟨rfl, rfl, rfl, by omega, rfl⟩, fun _ _ => rfl, ?_⟩
    cases hok : fmtOK (words s).length (wordV s) with
    | false => exact hR.2 (by unfold parseOK; rw [hok]; rfl)
    | true =>
      have e0 : (!decide ((bif true then (0 : Int) else 64) = 0)) = false := rfl
      rw [e0]
      show condP (!decide (fmtZ (words s).length (wordV s) = s)) _ _
      refine condP_ndec (fun h1 => hR.2 ?_) (fun h1 => ⟨fun _ _ => rfl, _, rowsEq1, hR.1 ?_⟩)
      · unfold parseOK; rw [hok, decide_eq_false h1]; rfl
      · unfold parseOK; rw [hok]; exact decide_eq_true h1
  · exact h.elim

end Go.Eng
/- A loop whose inner loops' specifications depend on the state of the round. -/
namespace Go.Eng

theorem LoopOK.mkI {C : Ctx} {te : TE} (hte : Prg C te) {m N : Nat} {x : Code} {s : St} {Q : Exit → St → Prop} (calls : List (Nat × CSpec)) {ι : Type} (loops : ι → List (Nat × LSpec)) (fuel : Nat) (hc : CallsOK C calls) (ls : ι → List (Code × LSpec)) (hls : ∀ i, loopsOf (loops i) x = ls i) (hL : ∀ i, LoopsOK C m N (ls i))
    (F Fe Fr : List Nat) (S : ι → St) (I : ι → Prop) (μ : ι → Nat) (i0 : ι) (hI : I i0)
    (h0 : canonIs te m F s (S i0)) (round : ∀ i, I i → roundP ⟨te, calls, loops i, m, N, fuel⟩ x F Fe Fr S (fun i' => I i' ∧ μ i' < μ i) Q (S i)) (hS : ∀ i, rowVC (S i).O True := by intro i; trivial) : AWP C m N (.loop x) Q s := by
  obtain ⟨ρ0, hw⟩ := canonIs_weak h0 (rowVC_elim (hS i0)).1
  have key : AWP C m N (.loop x) (Eng.canQ te m Fe Fr Q) s := by
    refine AWP.loop S I μ i0 hI hw fun i hi => ?_
    have hG : EnvOK C ⟨te, calls, loops i, m, N, fuel⟩ := ⟨hte.ok, hte.one, hc⟩
    refine (wpC_ok hG x _ _ (by rw [hls i]; exact (hL i).all) (round i hi)).mono fun e s hq => thenA_mono (fun s hs => ?_) e s hq
    obtain ⟨i', h3, h1, h2⟩ := hs
    obtain ⟨ρ, hw'⟩ := canonIs_weak h3 (rowVC_elim (hS i')).1
    exact ⟨i', ρ, h1, h2, hw'⟩
  exact key.canQ

end Go.Eng
/- The reference of the codes. -/
namespace Go.Eng
open Go.Proofs Go.RowKit
variable {C : Ctx}
set_option maxRecDepth 20000
theorem nf_rp_in (s : List UInt8) (k : Nat) (v : Nat → Int) (a c : Nat) (P : Nat → Prop) (R : Exit → St → Prop) : roundP ⟨te, [], [], 0, 90, 0⟩ (loopB Tryd.f40 4) [0, 4, 5, 6, 7] [0, 4, 5, 6, 7] [] (S_in s k v a) P R (S_in s k v a c) = (condP (decide ((↑a : Int) + (↑c : Int) < (↑(List.length s) : Int))) (((0 : Int) ≤ (↑a : Int) + (↑c : Int) ∧ (↑a : Int) + (↑c : Int) < (↑(List.length s) : Int)) ∧ condP (decide ((48 : Int) ≤ (↑(UInt8.toNat (List.getD s (Int.toNat ((↑a : Int) + (↑c : Int))) (0 : UInt8))) : Int))) (((0 : Int) ≤ (↑a : Int) + (↑c : Int) ∧ (↑a : Int) + (↑c : Int) < (↑(List.length s) : Int)) ∧ condP (decide ((↑(UInt8.toNat (List.getD s (Int.toNat ((↑a : Int) + (↑c : Int))) (0 : UInt8))) : Int) ≤ (57 : Int))) (inR .i64 ((↑a : Int) + (↑c : Int) - (↑a : Int)) ∧ condP (decide ((↑a : Int) + (↑c : Int) - (↑a : Int) < (2 : Int))) (inR .i64 ((10 : Int) * nv s a c) ∧ ((0 : Int) ≤ (↑a : Int) + (↑c : Int) ∧ (↑a : Int) + (↑c : Int) < (↑(List.length s) : Int)) ∧ inR .i64 (((↑(UInt8.toNat (List.getD s (Int.toNat ((↑a : Int) + (↑c : Int))) (0 : UInt8))) : Int) - (48 : Int)) % (256 : Int)) ∧ inR .i64 ((10 : Int) * nv s a c + ((↑(UInt8.toNat (List.getD s (Int.toNat ((↑a : Int) + (↑c : Int))) (0 : UInt8))) : Int) - (48 : Int)) % (256 : Int)) ∧ inR .i64 ((↑a : Int) + (↑c : Int) + (1 : Int)) ∧ ∃ (i' : Nat), (TEq [(0, .str s), (4, .own 0 k), (5, .int .i64 ((↑a : Int) + (↑c : Int) + (1 : Int))), (6, .int .i64 ((10 : Int) * nv s a c + ((↑(UInt8.toNat (List.getD s (Int.toNat ((↑a : Int) + (↑c : Int))) (0 : UInt8))) : Int) - (48 : Int)) % (256 : Int))), (7, .int .i64 (↑a : Int))] [(0, .str s), (4, .own 0 k), (5, .int .i64 ((↑a : Int) + (↑i' : Int))), (6, .int .i64 (nv s a i')), (7, .int .i64 (↑a : Int))] ∧ RowsEq [(0, .row 3 1 k (fun (i : Nat) => [.int .i64 (v i)]) false)] [(0, .row 3 1 k (fun (i : Nat) => [.int .i64 (v i)]) false)]) ∧ P i') ((∀ (i : Nat), i < k → true = true) ∧ ∃ (O' : List (Nat × AObj)), RowsEq [(0, .row 3 1 k (fun (i : Nat) => [.int .i64 (v i)]) false)] O' ∧ R (.exit 2) (St.mk [(0, .str s), (4, .own 0 k), (5, .int .i64 ((↑a : Int) + (↑c : Int))), (6, .int .i64 (nv s a c)), (7, .int .i64 (↑a : Int))] O' 1 []))) ((∀ (i : Nat), i < k → true = true) ∧ ∃ (O' : List (Nat × AObj)), RowsEq [(0, .row 3 1 k (fun (i : Nat) => [.int .i64 (v i)]) false)] O' ∧ R (.exit 2) (St.mk [(0, .str s), (4, .own 0 k), (5, .int .i64 ((↑a : Int) + (↑c : Int))), (6, .int .i64 (nv s a c)), (7, .int .i64 (↑a : Int))] O' 1 []))) ((∀ (i : Nat), i < k → true = true) ∧ ∃ (O' : List (Nat × AObj)), RowsEq [(0, .row 3 1 k (fun (i : Nat) => [.int .i64 (v i)]) false)] O' ∧ R (.exit 2) (St.mk [(0, .str s), (4, .own 0 k), (5, .int .i64 ((↑a : Int) + (↑c : Int))), (6, .int .i64 (nv s a c)), (7, .int .i64 (↑a : Int))] O' 1 []))) ((∀ (i : Nat), i < k → true = true) ∧ ∃ (O' : List (Nat × AObj)), RowsEq [(0, .row 3 1 k (fun (i : Nat) => [.int .i64 (v i)]) false)] O' ∧ R (.exit 2) (St.mk [(0, .str s), (4, .own 0 k), (5, .int .i64 ((↑a : Int) + (↑c : Int))), (6, .int .i64 (nv s a c)), (7, .int .i64 (↑a : Int))] O' 1 []))) := by kernel_rfl
theorem nf_rp (s : List UInt8) (R : AV → List (Nat × AObj) → Prop) : wpFn te [] [(3, L_rp s)] 0 Tryd.f40 [.str s] [] R = ((TEq [(0, .str s), (4, .own 0 0), (5, .int .i64 0)] [(0, .str s), (4, .own 0 0), (5, .int .i64 (↑(PIx.a (PIx.mk 0 0 fun (x : Nat) => (0 : Int))) : Int))] ∧ RowsEq [(0, .row 3 1 0 (fun (x : Nat) => []) false)] [(0, .row 3 1 0 (fun (j : Nat) => [.int .i64 (PIx.v (PIx.mk 0 0 fun (x : Nat) => (0 : Int)) j)]) false)]) ∧ List.length s < 4294967281 ∧ condP (parseOK s) ((∀ (i : Nat), i < List.length (words s) → true = true) ∧ ∃ (O' : List (Nat × AObj)), RowsEq [(0, .row 3 1 (List.length (words s)) (fun (i : Nat) => [.int .i64 (wordV s i)]) false)] O' ∧ R (.tuple [.own 0 (List.length (words s)), .int .i64 0]) O') (R (.tuple [.nil, .int .i64 60]) [])) := by kernel_rfl
theorem nf_rp_round (s : List UInt8) (k a : Nat) (v : Nat → Int) (P : PIx → Prop) (R : Exit → St → Prop) : roundP ⟨te, [], [(4, L_in s k v a)], 0, 90, 0⟩ (loopB Tryd.f40 3) [0, 4, 5] [] [2, 3] (S_rp s) P R (S_rp s ⟨k, a, v⟩) = ((TEq [(0, .str s), (4, .own 0 (PIx.k (PIx.mk k a v))), (5, .int .i64 (↑(PIx.a (PIx.mk k a v)) : Int)), (6, .int .i64 0), (7, .int .i64 (↑(PIx.a (PIx.mk k a v)) : Int))] [(0, .str s), (4, .own 0 k), (5, .int .i64 ((↑a : Int) + (↑0 : Int))), (6, .int .i64 (nv s a 0)), (7, .int .i64 (↑a : Int))] ∧ RowsEq [(0, .row 3 1 (PIx.k (PIx.mk k a v)) (fun (j : Nat) => [.int .i64 (PIx.v (PIx.mk k a v) j)]) false)] [(0, .row 3 1 k (fun (i : Nat) => [.int .i64 (v i)]) false)]) ∧ a ≤ List.length s ∧ List.length s < 4294967281 ∧ condP (decide ((↑a : Int) + (↑(Prod.snd (numAt (List.drop a s))) : Int) = (↑a : Int))) (R .ret (St.mk [(2, .nil), (3, .int .i64 60)] [] 0 [])) (condP (decide ((↑(Prod.fst (numAt (List.drop a s))) : Int) = (0 : Int))) (R .ret (St.mk [(2, .nil), (3, .int .i64 60)] [] 0 [])) (condP (decide ((↑k : Int) = (0 : Int))) (inR .i64 ((↑a : Int) + (↑(Prod.snd (numAt (List.drop a s))) : Int) - (↑a : Int)) ∧ condP (!decide ((↑a : Int) + (↑(Prod.snd (numAt (List.drop a s))) : Int) - (↑a : Int) = (2 : Int))) (R .ret (St.mk [(2, .nil), (3, .int .i64 60)] [] 0 [])) (condP (decide ((0 : Int) < (↑k : Int))) (((0 : Int) ≤ (↑a : Int) ∧ (↑a : Int) < (↑(List.length s) : Int)) ∧ condP (decide ((↑(UInt8.toNat (List.getD s (Int.toNat (↑a : Int)) (0 : UInt8))) : Int) = (48 : Int))) (R .ret (St.mk [(2, .nil), (3, .int .i64 60)] [] 0 [])) (condP (decide ((↑k : Int) = (5 : Int))) (R .ret (St.mk [(2, .nil), (3, .int .i64 60)] [] 0 [])) ((1 ≤ 16777216 ∧ 1 = 1 ∧ 1 ≤ 9223372036854775807) ∧ ((1 ≤ 1 ∧ 1 = 1) ∧ k ≤ k ∧ 1 = 1 ∧ 3 = 3 ∧ 1 = 1 ∧ k + 1 ≤ 9223372036854775807 ∧ (k + 1) * TI.bytes (TI.mk (TypeDesc.int IntKind.i64) 1 8 (Value.int IntKind.i64 0) false) ≤ 140737488355328) ∧ condP (decide ((↑a : Int) + (↑(Prod.snd (numAt (List.drop a s))) : Int) = (↑(List.length s) : Int))) ((∀ (i : Nat), i < k + 1 → nrefL (apF k (fun (i : Nat) => [.int .i64 (v i)]) (chunkA (TI.sz (TI.mk (TypeDesc.int IntKind.i64) 1 8 (Value.int IntKind.i64 0) false)) (.int .i64 (↑(Prod.fst (numAt (List.drop a s))) : Int) :: List.append [] (List.flatten (List.replicate (nat_lit 0) [.int .i64 0])))) i) = true) ∧ ∃ (O' : List (Nat × AObj)), RowsEq [(0, .row 3 1 (k + 1) (apF k (fun (i : Nat) => [.int .i64 (v i)]) (chunkA (TI.sz (TI.mk (TypeDesc.int IntKind.i64) 1 8 (Value.int IntKind.i64 0) false)) (.int .i64 (↑(Prod.fst (numAt (List.drop a s))) : Int) :: List.append [] (List.flatten (List.replicate (nat_lit 0) [.int .i64 0]))))) false)] O' ∧ R .ret (St.mk [(2, .own 0 (k + 1)), (3, .int .i64 0)] O' 1 [])) (((0 : Int) ≤ (↑a : Int) + (↑(Prod.snd (numAt (List.drop a s))) : Int) ∧ (↑a : Int) + (↑(Prod.snd (numAt (List.drop a s))) : Int) < (↑(List.length s) : Int)) ∧ condP (!decide ((↑(UInt8.toNat (List.getD s (Int.toNat ((↑a : Int) + (↑(Prod.snd (numAt (List.drop a s))) : Int))) (0 : UInt8))) : Int) = (46 : Int))) (R .ret (St.mk [(2, .nil), (3, .int .i64 60)] [] 0 [])) (inR .i64 ((↑a : Int) + (↑(Prod.snd (numAt (List.drop a s))) : Int) + (1 : Int)) ∧ ∃ (i' : PIx), (TEq [(0, .str s), (4, .own 0 (k + 1)), (5, .int .i64 ((↑a : Int) + (↑(Prod.snd (numAt (List.drop a s))) : Int) + (1 : Int)))] [(0, .str s), (4, .own 0 (PIx.k i')), (5, .int .i64 (↑(PIx.a i') : Int))] ∧ RowsEq [(0, .row 3 1 (k + 1) (apF k (fun (i : Nat) => [.int .i64 (v i)]) (chunkA (TI.sz (TI.mk (TypeDesc.int IntKind.i64) 1 8 (Value.int IntKind.i64 0) false)) (.int .i64 (↑(Prod.fst (numAt (List.drop a s))) : Int) :: List.append [] (List.flatten (List.replicate (nat_lit 0) [.int .i64 0]))))) false)] [(0, .row 3 1 (PIx.k i') (fun (j : Nat) => [.int .i64 (PIx.v i' j)]) false)]) ∧ P i'))))) (condP (decide ((↑k : Int) = (5 : Int))) (R .ret (St.mk [(2, .nil), (3, .int .i64 60)] [] 0 [])) ((1 ≤ 16777216 ∧ 1 = 1 ∧ 1 ≤ 9223372036854775807) ∧ ((1 ≤ 1 ∧ 1 = 1) ∧ k ≤ k ∧ 1 = 1 ∧ 3 = 3 ∧ 1 = 1 ∧ k + 1 ≤ 9223372036854775807 ∧ (k + 1) * TI.bytes (TI.mk (TypeDesc.int IntKind.i64) 1 8 (Value.int IntKind.i64 0) false) ≤ 140737488355328) ∧ condP (decide ((↑a : Int) + (↑(Prod.snd (numAt (List.drop a s))) : Int) = (↑(List.length s) : Int))) ((∀ (i : Nat), i < k + 1 → nrefL (apF k (fun (i : Nat) => [.int .i64 (v i)]) (chunkA (TI.sz (TI.mk (TypeDesc.int IntKind.i64) 1 8 (Value.int IntKind.i64 0) false)) (.int .i64 (↑(Prod.fst (numAt (List.drop a s))) : Int) :: List.append [] (List.flatten (List.replicate (nat_lit 0) [.int .i64 0])))) i) = true) ∧ ∃ (O' : List (Nat × AObj)), RowsEq [(0, .row 3 1 (k + 1) (apF k (fun (i : Nat) => [.int .i64 (v i)]) (chunkA (TI.sz (TI.mk (TypeDesc.int IntKind.i64) 1 8 (Value.int IntKind.i64 0) false)) (.int .i64 (↑(Prod.fst (numAt (List.drop a s))) : Int) :: List.append [] (List.flatten (List.replicate (nat_lit 0) [.int .i64 0]))))) false)] O' ∧ R .ret (St.mk [(2, .own 0 (k + 1)), (3, .int .i64 0)] O' 1 [])) (((0 : Int) ≤ (↑a : Int) + (↑(Prod.snd (numAt (List.drop a s))) : Int) ∧ (↑a : Int) + (↑(Prod.snd (numAt (List.drop a s))) : Int) < (↑(List.length s) : Int)) ∧ condP (!decide ((↑(UInt8.toNat (List.getD s (Int.toNat ((↑a : Int) + (↑(Prod.snd (numAt (List.drop a s))) : Int))) (0 : UInt8))) : Int) = (46 : Int))) (R .ret (St.mk [(2, .nil), (3, .int .i64 60)] [] 0 [])) (inR .i64 ((↑a : Int) + (↑(Prod.snd (numAt (List.drop a s))) : Int) + (1 : Int)) ∧ ∃ (i' : PIx), (TEq [(0, .str s), (4, .own 0 (k + 1)), (5, .int .i64 ((↑a : Int) + (↑(Prod.snd (numAt (List.drop a s))) : Int) + (1 : Int)))] [(0, .str s), (4, .own 0 (PIx.k i')), (5, .int .i64 (↑(PIx.a i') : Int))] ∧ RowsEq [(0, .row 3 1 (k + 1) (apF k (fun (i : Nat) => [.int .i64 (v i)]) (chunkA (TI.sz (TI.mk (TypeDesc.int IntKind.i64) 1 8 (Value.int IntKind.i64 0) false)) (.int .i64 (↑(Prod.fst (numAt (List.drop a s))) : Int) :: List.append [] (List.flatten (List.replicate (nat_lit 0) [.int .i64 0]))))) false)] [(0, .row 3 1 (PIx.k i') (fun (j : Nat) => [.int .i64 (PIx.v i' j)]) false)]) ∧ P i')))))) (condP (decide ((0 : Int) < (↑k : Int))) (((0 : Int) ≤ (↑a : Int) ∧ (↑a : Int) < (↑(List.length s) : Int)) ∧ condP (decide ((↑(UInt8.toNat (List.getD s (Int.toNat (↑a : Int)) (0 : UInt8))) : Int) = (48 : Int))) (R .ret (St.mk [(2, .nil), (3, .int .i64 60)] [] 0 [])) (condP (decide ((↑k : Int) = (5 : Int))) (R .ret (St.mk [(2, .nil), (3, .int .i64 60)] [] 0 [])) ((1 ≤ 16777216 ∧ 1 = 1 ∧ 1 ≤ 9223372036854775807) ∧ ((1 ≤ 1 ∧ 1 = 1) ∧ k ≤ k ∧ 1 = 1 ∧ 3 = 3 ∧ 1 = 1 ∧ k + 1 ≤ 9223372036854775807 ∧ (k + 1) * TI.bytes (TI.mk (TypeDesc.int IntKind.i64) 1 8 (Value.int IntKind.i64 0) false) ≤ 140737488355328) ∧ condP (decide ((↑a : Int) + (↑(Prod.snd (numAt (List.drop a s))) : Int) = (↑(List.length s) : Int))) ((∀ (i : Nat), i < k + 1 → nrefL (apF k (fun (i : Nat) => [.int .i64 (v i)]) (chunkA (TI.sz (TI.mk (TypeDesc.int IntKind.i64) 1 8 (Value.int IntKind.i64 0) false)) (.int .i64 (↑(Prod.fst (numAt (List.drop a s))) : Int) :: List.append [] (List.flatten (List.replicate (nat_lit 0) [.int .i64 0])))) i) = true) ∧ ∃ (O' : List (Nat × AObj)), RowsEq [(0, .row 3 1 (k + 1) (apF k (fun (i : Nat) => [.int .i64 (v i)]) (chunkA (TI.sz (TI.mk (TypeDesc.int IntKind.i64) 1 8 (Value.int IntKind.i64 0) false)) (.int .i64 (↑(Prod.fst (numAt (List.drop a s))) : Int) :: List.append [] (List.flatten (List.replicate (nat_lit 0) [.int .i64 0]))))) false)] O' ∧ R .ret (St.mk [(2, .own 0 (k + 1)), (3, .int .i64 0)] O' 1 [])) (((0 : Int) ≤ (↑a : Int) + (↑(Prod.snd (numAt (List.drop a s))) : Int) ∧ (↑a : Int) + (↑(Prod.snd (numAt (List.drop a s))) : Int) < (↑(List.length s) : Int)) ∧ condP (!decide ((↑(UInt8.toNat (List.getD s (Int.toNat ((↑a : Int) + (↑(Prod.snd (numAt (List.drop a s))) : Int))) (0 : UInt8))) : Int) = (46 : Int))) (R .ret (St.mk [(2, .nil), (3, .int .i64 60)] [] 0 [])) (inR .i64 ((↑a : Int) + (↑(Prod.snd (numAt (List.drop a s))) : Int) + (1 : Int)) ∧ ∃ (i' : PIx), (TEq [(0, .str s), (4, .own 0 (k + 1)), (5, .int .i64 ((↑a : Int) + (↑(Prod.snd (numAt (List.drop a s))) : Int) + (1 : Int)))] [(0, .str s), (4, .own 0 (PIx.k i')), (5, .int .i64 (↑(PIx.a i') : Int))] ∧ RowsEq [(0, .row 3 1 (k + 1) (apF k (fun (i : Nat) => [.int .i64 (v i)]) (chunkA (TI.sz (TI.mk (TypeDesc.int IntKind.i64) 1 8 (Value.int IntKind.i64 0) false)) (.int .i64 (↑(Prod.fst (numAt (List.drop a s))) : Int) :: List.append [] (List.flatten (List.replicate (nat_lit 0) [.int .i64 0]))))) false)] [(0, .row 3 1 (PIx.k i') (fun (j : Nat) => [.int .i64 (PIx.v i' j)]) false)]) ∧ P i'))))) (condP (decide ((↑k : Int) = (5 : Int))) (R .ret (St.mk [(2, .nil), (3, .int .i64 60)] [] 0 [])) ((1 ≤ 16777216 ∧ 1 = 1 ∧ 1 ≤ 9223372036854775807) ∧ ((1 ≤ 1 ∧ 1 = 1) ∧ k ≤ k ∧ 1 = 1 ∧ 3 = 3 ∧ 1 = 1 ∧ k + 1 ≤ 9223372036854775807 ∧ (k + 1) * TI.bytes (TI.mk (TypeDesc.int IntKind.i64) 1 8 (Value.int IntKind.i64 0) false) ≤ 140737488355328) ∧ condP (decide ((↑a : Int) + (↑(Prod.snd (numAt (List.drop a s))) : Int) = (↑(List.length s) : Int))) ((∀ (i : Nat), i < k + 1 → nrefL (apF k (fun (i : Nat) => [.int .i64 (v i)]) (chunkA (TI.sz (TI.mk (TypeDesc.int IntKind.i64) 1 8 (Value.int IntKind.i64 0) false)) (.int .i64 (↑(Prod.fst (numAt (List.drop a s))) : Int) :: List.append [] (List.flatten (List.replicate (nat_lit 0) [.int .i64 0])))) i) = true) ∧ ∃ (O' : List (Nat × AObj)), RowsEq [(0, .row 3 1 (k + 1) (apF k (fun (i : Nat) => [.int .i64 (v i)]) (chunkA (TI.sz (TI.mk (TypeDesc.int IntKind.i64) 1 8 (Value.int IntKind.i64 0) false)) (.int .i64 (↑(Prod.fst (numAt (List.drop a s))) : Int) :: List.append [] (List.flatten (List.replicate (nat_lit 0) [.int .i64 0]))))) false)] O' ∧ R .ret (St.mk [(2, .own 0 (k + 1)), (3, .int .i64 0)] O' 1 [])) (((0 : Int) ≤ (↑a : Int) + (↑(Prod.snd (numAt (List.drop a s))) : Int) ∧ (↑a : Int) + (↑(Prod.snd (numAt (List.drop a s))) : Int) < (↑(List.length s) : Int)) ∧ condP (!decide ((↑(UInt8.toNat (List.getD s (Int.toNat ((↑a : Int) + (↑(Prod.snd (numAt (List.drop a s))) : Int))) (0 : UInt8))) : Int) = (46 : Int))) (R .ret (St.mk [(2, .nil), (3, .int .i64 60)] [] 0 [])) (inR .i64 ((↑a : Int) + (↑(Prod.snd (numAt (List.drop a s))) : Int) + (1 : Int)) ∧ ∃ (i' : PIx), (TEq [(0, .str s), (4, .own 0 (k + 1)), (5, .int .i64 ((↑a : Int) + (↑(Prod.snd (numAt (List.drop a s))) : Int) + (1 : Int)))] [(0, .str s), (4, .own 0 (PIx.k i')), (5, .int .i64 (↑(PIx.a i') : Int))] ∧ RowsEq [(0, .row 3 1 (k + 1) (apF k (fun (i : Nat) => [.int .i64 (v i)]) (chunkA (TI.sz (TI.mk (TypeDesc.int IntKind.i64) 1 8 (Value.int IntKind.i64 0) false)) (.int .i64 (↑(Prod.fst (numAt (List.drop a s))) : Int) :: List.append [] (List.flatten (List.replicate (nat_lit 0) [.int .i64 0]))))) false)] [(0, .row 3 1 (PIx.k i') (fun (j : Nat) => [.int .i64 (PIx.v i' j)]) false)]) ∧ P i')))))))) := by kernel_rfl

theorem in_exit {s : List UInt8} {a c : Nat} (hc : c ≤ 2) (hl : a + c ≤ s.length) (hd : ∀ j, j < c → dig (s.getD (a + j) 0) = true) (hx : c = 2 ∨ a + c = s.length ∨ dig (s.getD (a + c) 0) = false) : (numAt (s.drop a)).2 = c ∧ ((numAt (s.drop a)).1 : Int) = nv s a c := by
  match c with
  | 0 =>
    rw [numAt_none (s := s) (a := a) (hx.elim (fun h => by omega) fun h => h.elim (fun h => .inl (by omega)) fun h => .inr h)]
    exact ⟨rfl, rfl⟩
  | 1 =>
    have h0 := hd 0 (by omega)
    rw [numAt_one (s := s) (a := a) (by omega) h0 (hx.elim (fun h => by omega) id)]
    have := (dig_iff _).1 h0
    refine ⟨rfl, ?_⟩
    simp only [nv, dg, Nat.add_zero] at this ⊢
    omega
  | 2 =>
    have h0 := hd 0 (by omega)
    have h1 := hd 1 (by omega)
    rw [numAt_two (s := s) (a := a) (by omega) h0 h1]
    have := (dig_iff _).1 h0
    have := (dig_iff _).1 h1
    refine ⟨rfl, ?_⟩
    simp only [nv, dg, Nat.add_zero] at *
    omega

theorem rp_in (hP : C.P = Tryd.prog) (s : List UInt8) (k : Nat) (v : Nat → Int) (a : Nat) : LoopOK C 0 90 (loopC Tryd.f40 4) (L_in s k v a) := by
  rintro st Q ⟨h0, ha, hs, hQ⟩
  refine LoopOK.mk (prg hP) [] 0 .nil [0, 4, 5, 6, 7] [0, 4, 5, 6, 7] [] (S_in s k v a) (fun c => c ≤ 2 ∧ a + c ≤ s.length ∧ ∀ j, j < c → dig (s.getD (a + j) 0) = true) (fun c => 2 - c) 0 ⟨by omega, by omega, fun j hj => by omega⟩ h0 (fun c hc => ?_) (fun i => ⟨fun _ _ => rfl, trivial⟩)
  obtain ⟨hc2, hl, hd⟩ := hc
  rw [nf_rp_in]
  have hex : (c = 2 ∨ a + c = s.length ∨ dig (s.getD (a + c) 0) = false) → ((∀ (i : Nat), i < k → true = true) ∧ ∃ (O' : List (Nat × AObj)), RowsEq [(0, .row 3 1 k (fun (i : Nat) => [.int .i64 (v i)]) false)] O' ∧ Q (.exit 2) (St.mk [(0, .str s), (4, .own 0 k), (5, .int .i64 ((a : Int) + (c : Int))), (6, .int .i64 (nv s a c)), (7, .int .i64 (a : Int))] O' 1 [])) := by
    intro hx
    obtain ⟨e1, e2⟩ := in_exit hc2 hl hd hx
    rw [e1, e2] at hQ
    exact ⟨fun _ _ => rfl, _, rowsEq1, hQ⟩
  have et : ((a : Int) + (c : Int)).toNat = a + c := by omega
  refine condP_dec (fun h1 => ?_) (fun h1 => hex (.inr (.inl (by omega))))
  have hb := (s.getD (a + c) 0).toNat_lt
  rw [et]
  refine ⟨⟨by omega, by omega⟩, condP_dec (fun h2 => ?_) (fun h2 => hex (.inr (.inr (dig_no _ (by omega)))))⟩
  refine ⟨⟨by omega, by omega⟩, condP_dec (fun h3 => ?_) (fun h3 => hex (.inr (.inr (dig_no _ (by omega)))))⟩
  refine ⟨by simp only [inR]; omega, condP_dec (fun h4 => ?_) (fun h4 => hex (.inl (by omega)))⟩
  have hdg : dig (s.getD (a + c) 0) = true := (dig_iff _).2 ⟨by omega, by omega⟩
  have hnv : 0 ≤ nv s a c ∧ nv s a c ≤ 9 ∧ (10 : Int) * nv s a c + (((s.getD (a + c) 0).toNat : Int) - 48) % 256 = nv s a (c + 1) := by
    match c with
    | 0 =>
      simp only [nv, dg, Nat.add_zero] at *
      omega
    | 1 =>
      have h := (dig_iff _).1 (hd 0 (by omega))
      simp only [nv, dg, Nat.add_zero] at *
      omega
    | c + 2 => omega
  refine ⟨by simp only [inR]; omega, ⟨by omega, by omega⟩, by simp only [inR]; omega, by simp only [inR]; omega, by simp only [inR]; omega, c + 1, ⟨?_, rowsEq1⟩, ⟨by omega, by omega, fun j hj => ?_⟩, by omega⟩
  · rw [hnv.2.2, show (a : Int) + c + 1 = (a : Int) + ((c + 1 : Nat) : Int) by omega]; rfl
  · by_cases hjc : j = c
    · subst hjc; exact hdg
    · exact hd j (by omega)

theorem rp_loop (hP : C.P = Tryd.prog) (s : List UInt8) : LoopOK C 0 90 (loopC Tryd.f40 3) (L_rp s) := by
  rintro st Q ⟨h0, hs, hQ⟩
  have hR := condP_elim hQ
  have hpp := parse_pref s
  refine AWP.ownNil 4 3 1 ?_
  have hfail : ∀ i : PIx, i.k ≤ 5 → pref 6 0 s = (pref (6 - i.k) i.k (s.drop i.a)).map (fun l => (List.range i.k).map i.v ++ l) → pref (6 - i.k) i.k (s.drop i.a) = none → parseOK s = false := by
    intro i _ h1 h2
    rw [h2] at h1
    rw [h1] at hpp
    exact hpp
  refine LoopOK.mkI (prg hP) [] (fun i : PIx => [(4, L_in s i.k i.v i.a)]) 0 .nil (fun i => [(loopC Tryd.f40 4, L_in s i.k i.v i.a)]) (fun i => by kernel_rfl) (fun i => ⟨rp_in hP s i.k i.v i.a, trivial⟩) [0, 4, 5] [] [2, 3] (S_rp s) (fun i => i.k ≤ 5 ∧ i.a ≤ s.length ∧ pref 6 0 s = (pref (6 - i.k) i.k (s.drop i.a)).map (fun l => (List.range i.k).map i.v ++ l)) (fun i => s.length - i.a) ⟨0, 0, fun _ => 0⟩ ⟨Nat.zero_le _, Nat.zero_le _, ?_⟩ h0 (fun i hi => ?_) (fun i => ⟨fun _ _ => rfl, trivial⟩)
  · show pref 6 0 s = (pref 6 0 s).map (fun l => l)
    cases pref 6 0 s <;> rfl
  · obtain ⟨k, a, v⟩ := i
    obtain ⟨hk, ha, hpr⟩ := hi
    dsimp only at hk ha hpr
    have hf := hfail ⟨k, a, v⟩ hk hpr
    dsimp only at hf
    obtain ⟨f, hf6⟩ : ∃ f, 6 - k = f + 1 := ⟨5 - k, by omega⟩
    rw [hf6] at hf hpr
    have hle := numAt_le (s.drop a)
    rw [List.length_drop] at hle
    have hnone : noPart k (s.drop a) = true → Q .ret ⟨[(2, .nil), (3, .int .i64 60)], [], 0, []⟩ := by
      intro h
      exact hR.2 (hf (by unfold pref; rw [h]))
    have hg := getD_drop s a 0
    rw [Nat.add_zero] at hg
    have hsome : noPart k (s.drop a) = false → pref (f + 1) k (s.drop a) = match (s.drop a).drop (numAt (s.drop a)).2 with
        | [] => some [((numAt (s.drop a)).1 : Int)]
        | b :: r' => match decide (b.toNat = 46) with
          | true => match pref f (k + 1) r' with
            | some l => some (((numAt (s.drop a)).1 : Int) :: l)
            | none => none
          | false => none := by
      intro h
      conv => lhs; unfold pref
      rw [h]
      try rfl
    unfold noPart at hnone hsome
    rw [hg] at hnone hsome
    rw [nf_rp_round]
    generalize numAt (s.drop a) = nl at hle hnone hsome ⊢
    obtain ⟨n, len⟩ := nl
    dsimp only at hle hnone hsome ⊢
    rw [List.drop_drop] at hsome
    have ea : ((a : Int)).toNat = a := rfl
    have eal : ((a : Int) + (len : Int)).toNat = a + len := by omega
    rw [ea, eal]
    have hrow : ∀ i, i < k + 1 → apF k (fun i => [AV.int .i64 (v i)]) (chunkA (TI.sz (TI.mk (TypeDesc.int IntKind.i64) 1 8 (Value.int IntKind.i64 0) false)) (.int .i64 (n : Int) :: List.append [] (List.flatten (List.replicate (nat_lit 0) [.int .i64 0])))) i = [.int .i64 (if i < k then v i else n)] := by
      intro i hi
      unfold apF
      split
      · rfl
      · have : i = k := by omega
        subst this
        rw [Nat.sub_self]; rfl
    have hmap : (List.range (k + 1)).map (fun i => if i < k then v i else (n : Int)) = (List.range k).map v ++ [(n : Int)] := by
      rw [List.range_succ, List.map_append]
      congr 1
      · apply List.map_congr_left
        intro i hi
        have := List.mem_range.1 hi
        simp [this]
      · simp
    refine ⟨⟨?_, rowsEq1⟩, ha, hs, condP_dec (fun h1 => hnone ?_) (fun h1 => condP_dec (fun h2 => hnone ?_) (fun h2 => condP_dec (fun h3 => ⟨by simp only [inR]; omega, condP_ndec (fun h4 => hnone ?_) (fun h4 => condP_dec (fun h5 => ?_) (fun h5 => ?_))⟩) (fun h3 => condP_dec (fun h5 => ⟨⟨by omega, by omega⟩, condP_dec (fun h6 => hnone ?_) (fun h6 => ?_)⟩) (fun h5 => ?_))))⟩
    all_goals try (exfalso; omega)
    · simp [TEq, nv]
    · rw [decide_eq_true (show len = 0 by omega)]; rfl
    · rw [decide_eq_true (show n = 0 by omega), Bool.or_true]; rfl
    · rw [decide_eq_true (show k = 0 by omega), decide_eq_false (show ¬ len = 2 by omega)]; simp
    rotate_left
    · rw [decide_eq_true (show 0 < k by omega), decide_eq_true (show (s.getD a 0).toNat = 48 by omega)]; simp
    all_goals
      refine condP_dec (fun h7 => hnone ?_) (fun h7 => ?_)
      · rw [decide_eq_true (show k = 5 by omega), Bool.or_true]
      have hp := hsome (by
        simp only [Bool.or_eq_false_iff, decide_eq_false_iff_not, Bool.and_eq_false_iff, Bool.not_eq_false', decide_eq_true_iff]
        omega)
      clear hnone hsome
      have hbyte : (k + 1) * TI.bytes (TI.mk (TypeDesc.int IntKind.i64) 1 8 (Value.int IntKind.i64 0) false) = (k + 1) * 8 := rfl
      refine ⟨⟨by omega, rfl, by omega⟩, ⟨⟨⟨by omega, rfl⟩, Nat.le_refl _, rfl, rfl, rfl, by omega, by rw [hbyte]; omega⟩, condP_dec (fun h8 => ?_) (fun h8 => ?_)⟩⟩
      · rw [List.drop_eq_nil_of_le (show s.length ≤ a + len by omega)] at hp
        dsimp only at hp
        rw [hp] at hpr
        rw [hpr] at hpp
        obtain ⟨q1, q2, q3⟩ := hpp
        have hA := hR.1 q1
        have hlen : ((List.range k).map v ++ [(n : Int)]).length = k + 1 := by simp
        rw [hlen] at q2 q3
        rw [q2] at hA
        refine ⟨fun i hi => ?_, _, ?_, hA⟩
        · rw [hrow i hi]; rfl
        · refine ⟨⟨rfl, rfl, rfl, rfl, rfl, fun i hi => ?_⟩, trivial⟩
          refine (hrow i hi).trans ?_
          show _ = [AV.int .i64 (wordV s i)]
          have q4 : wordV s i = ((List.range k).map v ++ [(n : Int)]).getD i 0 := q3 i hi
          rw [q4, ← hmap]
          simp [List.getD, hi]
      · rw [List.drop_eq_getElem_cons (show a + len < s.length by omega)] at hp
        have hge : s.getD (a + len) 0 = s[a + len] := by rw [List.getD, List.getElem?_eq_getElem (by omega)]; rfl
        refine ⟨⟨by omega, by omega⟩, condP_ndec (fun h9 => ?_) (fun h9 => ?_)⟩
        · refine hR.2 (hf ?_)
          rw [hp]
          dsimp only
          rw [← hge, decide_eq_false (by omega)]
        · dsimp only at hp
          rw [← hge, decide_eq_true (by omega)] at hp
          dsimp only at hp
          refine ⟨by simp only [inR]; omega, ⟨k + 1, a + len + 1, fun i => if i < k then v i else n⟩, ⟨?_, ⟨rfl, rfl, rfl, rfl, rfl, fun i hi => hrow i hi⟩, trivial⟩, ⟨by show k + 1 ≤ 5; omega, by show a + len + 1 ≤ s.length; omega, ?_⟩, by show s.length - (a + len + 1) < s.length - a; omega⟩
          · show TEq [(0, .str s), (4, .own 0 (k + 1)), (5, .int .i64 ((a : Int) + (len : Int) + 1))] [(0, .str s), (4, .own 0 (k + 1)), (5, .int .i64 ((a + len + 1 : Nat) : Int))]
            rw [show (a : Int) + (len : Int) + 1 = ((a + len + 1 : Nat) : Int) by omega]
            rfl
          · show pref 6 0 s = (pref (6 - (k + 1)) (k + 1) (s.drop (a + len + 1))).map (fun l => (List.range (k + 1)).map (fun i => if i < k then v i else (n : Int)) ++ l)
            rw [show 6 - (k + 1) = f by omega, hpr, hp, hmap]
            cases pref f (k + 1) (s.drop (a + len + 1)) <;> simp

theorem rp_ok (hP : C.P = Tryd.prog) : RSpecOK C 40 R_parse := by
  rintro args objs R h
  unfold R_parse at h
  split at h
  · rename_i s
    obtain ⟨hs, hR⟩ := h
    have hR := condP_elim hR
    refine RSpecOK.wpL (prg hP) [] [(3, L_rp s)] 0 .nil (hP ▸ Tryd.func40) rfl rfl rfl
      [(loopC Tryd.f40 3, L_rp s)] (by kernel_rfl) ⟨rp_loop hP s, trivial⟩ ?_
    rw [nf_rp]
    refine ⟨⟨rfl, ⟨rfl, rfl, rfl, rfl, rfl, fun i hi => by omega⟩, trivial⟩, hs, ?_⟩
    refine condP_intro (fun h => ⟨fun _ _ => rfl, _, rowsEq1, hR.1 h⟩) hR.2
  · exact h.elim

end Go.Eng
/- Levels of codes. -/
namespace Go.Eng
open Go.Proofs Go.RowKit
variable {C : Ctx}
set_option maxRecDepth 20000
theorem nf_level (s : List UInt8) (R : AV → List (Nat × AObj) → Prop) : wpFn te [(35, .rel R_parse)] [] 0 Tryd.f22 [.str s] [] R = (List.length s < 4294967281 ∧ condP (parseOK s) ((∀ (i : Nat), i < List.length (words s) → true = true) ∧ R (.int .i64 (↑(List.length (words s)) : Int)) []) (condP (!decide (s = [])) (R (.int .i64 (-1 : Int)) []) (R (.int .i64 0) []))) := by kernel_rfl
theorem nf_is (s : List UInt8) (R : AV → List (Nat × AObj) → Prop) : wpFn te [(40, .rel R_parse)] [] 0 Tryd.f26 [.str s] [] R = (List.length s < 4294967281 ∧ condP (parseOK s) ((∀ (i : Nat), i < List.length (words s) → true = true) ∧ R (.bool true) []) (R (.bool false) [])) := by kernel_rfl

theorem level_ok (hP : C.P = Tryd.prog) (hL : ∀ w, C.laid w → LaidW w) : SpecOK C 22 S_level := by
  rintro args objs U Os vc h hvc
  unfold S_level at h
  split at h <;> simp only [Option.some.injEq, Prod.mk.injEq, reduceCtorEq] at h
  rename_i s
  obtain ⟨rfl, rfl, rfl⟩ := h
  refine SpecOK.wp0 (prg hP) [(35, .rel R_parse)] 0 (.cons (parse_ok hP hL) .nil) (hP ▸ Tryd.func22) rfl rfl rfl ?_
  rw [nf_level]
  refine ⟨hvc, condP_intro (fun h => ⟨fun _ _ => rfl, ?_, rfl⟩) (fun h => condP_ndec (fun h' => ⟨?_, rfl⟩) (fun h' => ⟨?_, rfl⟩))⟩
  · unfold levelV; rw [h]
  · unfold levelV; rw [h, decide_eq_false h']
  · unfold levelV; rw [h, decide_eq_true h']

theorem is_ok (hP : C.P = Tryd.prog) : SpecOK C 26 S_is := by
  rintro args objs U Os vc h hvc
  unfold S_is at h
  split at h <;> simp only [Option.some.injEq, Prod.mk.injEq, reduceCtorEq] at h
  rename_i s
  obtain ⟨rfl, rfl, rfl⟩ := h
  refine SpecOK.wp0 (prg hP) [(40, .rel R_parse)] 0 (.cons (rp_ok hP) .nil) (hP ▸ Tryd.func26) rfl rfl rfl ?_
  rw [nf_is]
  exact ⟨hvc, condP_intro (fun h => ⟨fun _ _ => rfl, by rw [h], rfl⟩) (fun h => ⟨by rw [h], rfl⟩)⟩
end Go.Eng
