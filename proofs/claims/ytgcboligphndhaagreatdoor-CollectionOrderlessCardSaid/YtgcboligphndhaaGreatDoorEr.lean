/- The package product: its functions compute what the plain functions say. -/
import Derived.Test.YtgcboligphndhaaGreatDoorEn
import Derived.Test.YtgcboligphndhaaGreatDoorEq
import Derived.Test.YtgcboligphndhaaGreatDoorEo
namespace Go.Eng
open Go.Proofs Go.RowKit
set_option maxRecDepth 20000
theorem nf_min (n : Nat) (v : Nat → Int) (R : AV → List (Nat × AObj) → Prop) : wpFn te [] [(5, L_mm n v (minV v)), (1002, fun _ _ => False)] 0 Tryz.f260 [.own 0 n] [.row 3 1 n (fun i => [.int .i64 (v i)]) false] R = (letI z0 := ([(0, .row 3 1 n (fun (i : Nat) => [.int .i64 (v i)]) false)] : List (Nat × AObj)); condP (decide ((↑n : Int) < (1 : Int))) False (((0 : Int) ≤ (0 : Int) ∧ (0 : Int) < (↑n : Int)) ∧ (0 < n ∧ 1 = 1) ∧ (TEq [(0, .own 0 n), (3, .int .i64 (v 0)), (4, .int .i64 1)] [(0, .own 0 n), (3, .int .i64 (minV v 0)), (4, .int .i64 ((↑0 : Int) + (1 : Int)))] ∧ RowsEq z0 z0) ∧ 1 ≤ n ∧ n ≤ 4611686018427387904 ∧ (∀ (i : Nat), i < n → true = true) ∧ ∃ (O' : List (Nat × AObj)), RowsEq z0 O' ∧ R (.int .i64 (minV v (n - 1))) O')) := by kernel_rfl
theorem nf_min_round (n : Nat) (v : Nat → Int) (k : Nat) (P : Nat → Prop) (R : Exit → St → Prop) : roundP ⟨te, [], [], 1, 25, 0⟩ (loopB Tryz.f260 5) [0, 3, 4] [3] [] (S_mmState n v (minV v)) P R (S_mmState n v (minV v) k) = (letI z0 := ([(0, .row 3 1 n (fun (i : Nat) => [.int .i64 (v i)]) false)] : List (Nat × AObj)); condP (decide ((↑k : Int) + (1 : Int) < (↑n : Int))) (((0 : Int) ≤ (↑k : Int) + (1 : Int) ∧ (↑k : Int) + (1 : Int) < (↑n : Int)) ∧ (Int.toNat ((↑k : Int) + (1 : Int)) < n ∧ 1 = 1) ∧ inR .i64 ((↑k : Int) + (1 : Int) + (1 : Int)) ∧ ∃ (i' : Nat), (TEq [(0, .own 0 n), (3, .int .i64 (min (minV v k) (v (Int.toNat ((↑k : Int) + (1 : Int)))))), (4, .int .i64 ((↑k : Int) + (1 : Int) + (1 : Int)))] [(0, .own 0 n), (3, .int .i64 (minV v i')), (4, .int .i64 ((↑i' : Int) + (1 : Int)))] ∧ RowsEq z0 z0) ∧ P i') ((∀ (i : Nat), i < n → true = true) ∧ ∃ (O' : List (Nat × AObj)), RowsEq z0 O' ∧ R (.exit 0) (St.mk [(3, .int .i64 (minV v k))] O' 1 []))) := by kernel_rfl
theorem nf_max (n : Nat) (v : Nat → Int) (R : AV → List (Nat × AObj) → Prop) : wpFn te [] [(5, L_mm n v (maxV v)), (1002, fun _ _ => False)] 0 Tryz.f261 [.own 0 n] [.row 3 1 n (fun i => [.int .i64 (v i)]) false] R = (letI z0 := ([(0, .row 3 1 n (fun (i : Nat) => [.int .i64 (v i)]) false)] : List (Nat × AObj)); condP (decide ((↑n : Int) < (1 : Int))) False (((0 : Int) ≤ (0 : Int) ∧ (0 : Int) < (↑n : Int)) ∧ (0 < n ∧ 1 = 1) ∧ (TEq [(0, .own 0 n), (3, .int .i64 (v 0)), (4, .int .i64 1)] [(0, .own 0 n), (3, .int .i64 (maxV v 0)), (4, .int .i64 ((↑0 : Int) + (1 : Int)))] ∧ RowsEq z0 z0) ∧ 1 ≤ n ∧ n ≤ 4611686018427387904 ∧ (∀ (i : Nat), i < n → true = true) ∧ ∃ (O' : List (Nat × AObj)), RowsEq z0 O' ∧ R (.int .i64 (maxV v (n - 1))) O')) := by kernel_rfl
theorem nf_max_round (n : Nat) (v : Nat → Int) (k : Nat) (P : Nat → Prop) (R : Exit → St → Prop) : roundP ⟨te, [], [], 1, 25, 0⟩ (loopB Tryz.f261 5) [0, 3, 4] [3] [] (S_mmState n v (maxV v)) P R (S_mmState n v (maxV v) k) = (letI z0 := ([(0, .row 3 1 n (fun (i : Nat) => [.int .i64 (v i)]) false)] : List (Nat × AObj)); condP (decide ((↑k : Int) + (1 : Int) < (↑n : Int))) (((0 : Int) ≤ (↑k : Int) + (1 : Int) ∧ (↑k : Int) + (1 : Int) < (↑n : Int)) ∧ (Int.toNat ((↑k : Int) + (1 : Int)) < n ∧ 1 = 1) ∧ inR .i64 ((↑k : Int) + (1 : Int) + (1 : Int)) ∧ ∃ (i' : Nat), (TEq [(0, .own 0 n), (3, .int .i64 (max (maxV v k) (v (Int.toNat ((↑k : Int) + (1 : Int)))))), (4, .int .i64 ((↑k : Int) + (1 : Int) + (1 : Int)))] [(0, .own 0 n), (3, .int .i64 (maxV v i')), (4, .int .i64 ((↑i' : Int) + (1 : Int)))] ∧ RowsEq z0 z0) ∧ P i') ((∀ (i : Nat), i < n → true = true) ∧ ∃ (O' : List (Nat × AObj)), RowsEq z0 O' ∧ R (.exit 0) (St.mk [(3, .int .i64 (maxV v k))] O' 1 []))) := by kernel_rfl
theorem nf_format (n : Nat) (v : Nat → Int) (R : AV → List (Nat × AObj) → Prop) : wpFn te [(260, .det S_min), (261, .det S_max), (133, .det S_itoa)] [(7, L_fmt n v)] 0 Tryz.f244 [.own 0 n] [.row 3 1 n (fun i => [.int .i64 (v i)]) false] R = (letI z4 := ([.str [], .int .i64 64] : List AV); letI z3 := (n - Int.toNat (1 : Int)); letI z2 := (vInt fun (i : Nat) => [.int .i64 (v i)]); letI z1 := ([(4, .str (fmtHead (v 0) ++ fmtRest v 0)), (36, .sub 0 1 1 (n - 1)), (37, .int .i64 (↑(n - 1) : Int)), (38, .int .i64 (↑0 : Int))] : List (Nat × AV)); letI z0 := ([(0, .row 3 1 n (fun (i : Nat) => [.int .i64 (v i)]) false)] : List (Nat × AObj)); condP (decide ((↑n : Int) < (1 : Int))) ((∀ (i : Nat), i < n → true = true) ∧ ∃ (O' : List (Nat × AObj)), RowsEq z0 O' ∧ R (.tuple z4) O') (condP (decide ((5 : Int) < (↑n : Int))) ((∀ (i : Nat), i < n → true = true) ∧ ∃ (O' : List (Nat × AObj)), RowsEq z0 O' ∧ R (.tuple z4) O') ((∀ (i : Nat), i < n → true = true) ∧ (3 = 3 ∧ false = false ∧ 1 ≤ n ∧ n = n ∧ n ≤ 4611686018427387904 ∧ (fun (i : Nat) => [.int .i64 (v i)]) = intRow z2) ∧ (∀ (i : Nat), i < n → true = true) ∧ condP (decide (minV z2 (n - 1) < (1 : Int))) ((∀ (i : Nat), i < n → true = true) ∧ ∃ (O' : List (Nat × AObj)), RowsEq z0 O' ∧ R (.tuple z4) O') ((∀ (i : Nat), i < n → true = true) ∧ (3 = 3 ∧ false = false ∧ 1 ≤ n ∧ n = n ∧ n ≤ 4611686018427387904 ∧ (fun (i : Nat) => [.int .i64 (v i)]) = intRow z2) ∧ (∀ (i : Nat), i < n → true = true) ∧ condP (decide ((99 : Int) < maxV z2 (n - 1))) ((∀ (i : Nat), i < n → true = true) ∧ ∃ (O' : List (Nat × AObj)), RowsEq z0 O' ∧ R (.tuple z4) O') (((0 : Int) ≤ (0 : Int) ∧ (0 : Int) < (↑n : Int)) ∧ (0 < n ∧ 1 = 1) ∧ ((0 : Int) ≤ v 0 ∧ v 0 < (100 : Int)) ∧ ((0 : Int) ≤ (0 : Int) ∧ (0 : Int) < (↑n : Int)) ∧ (0 < n ∧ 1 = 1) ∧ condP (decide (v 0 < (10 : Int))) (List.length ([(48 : UInt8)]) + List.length (decF (v 0)) ≤ 9223372036854775807 ∧ ((0 : Int) ≤ (1 : Int) ∧ (1 : Int) ≤ (↑n : Int)) ∧ (TEq [(4, .str ([(48 : UInt8)] ++ decF (v 0))), (36, .sub 0 1 1 z3), (37, .int .i64 (↑z3 : Int)), (38, .int .i64 0)] z1 ∧ RowsEq z0 z0) ∧ fmtOK n v = true ∧ (∀ (i : Nat), i < n → true = true) ∧ ∃ (O' : List (Nat × AObj)), RowsEq z0 O' ∧ R (.tuple [.str (fmtZ n v), .int .i64 0]) O') (((0 : Int) ≤ (1 : Int) ∧ (1 : Int) ≤ (↑n : Int)) ∧ (TEq [(4, .str (decF (v 0))), (36, .sub 0 1 1 z3), (37, .int .i64 (↑z3 : Int)), (38, .int .i64 0)] z1 ∧ RowsEq z0 z0) ∧ fmtOK n v = true ∧ (∀ (i : Nat), i < n → true = true) ∧ ∃ (O' : List (Nat × AObj)), RowsEq z0 O' ∧ R (.tuple [.str (fmtZ n v), .int .i64 0]) O')))))) := by kernel_rfl
theorem nf_format_round (n : Nat) (v : Nat → Int) (k : Nat) (P : Nat → Prop) (R : Exit → St → Prop) : roundP ⟨te, [(133, .det S_itoa)], [], 1, 49, 0⟩ (loopB Tryz.f244 7) [4, 36, 37, 38] [4] [] (S_fmtState n v) P R (S_fmtState n v k) = (letI z1 := (v (1 + Int.toNat (↑k : Int))); letI z0 := ([(0, .row 3 1 n (fun (i : Nat) => [.int .i64 (v i)]) false)] : List (Nat × AObj)); condP (decide ((↑k : Int) < (↑(n - 1) : Int))) (((0 : Int) ≤ (↑k : Int) ∧ (↑k : Int) < (↑(n - 1) : Int) ∧ 1 = 1) ∧ (1 + Int.toNat (↑k : Int) < n ∧ 1 = 1) ∧ ((0 : Int) ≤ v (1 + Int.toNat (↑k : Int)) ∧ v (1 + Int.toNat (↑k : Int)) < (100 : Int)) ∧ List.length ([(46 : UInt8)]) + List.length (decF z1) ≤ 9223372036854775807 ∧ List.length (fmtHead (v 0) ++ fmtRest v k) + List.length ([(46 : UInt8)] ++ decF z1) ≤ 9223372036854775807 ∧ inR .i64 ((↑k : Int) + (1 : Int)) ∧ ∃ (i' : Nat), (TEq [(4, .str (fmtHead (v 0) ++ fmtRest v k ++ ([(46 : UInt8)] ++ decF z1))), (36, .sub 0 1 1 (n - 1)), (37, .int .i64 (↑(n - 1) : Int)), (38, .int .i64 ((↑k : Int) + (1 : Int)))] [(4, .str (fmtHead (v 0) ++ fmtRest v i')), (36, .sub 0 1 1 (n - 1)), (37, .int .i64 (↑(n - 1) : Int)), (38, .int .i64 (↑i' : Int))] ∧ RowsEq z0 z0) ∧ P i') ((∀ (i : Nat), i < n → true = true) ∧ ∃ (O' : List (Nat × AObj)), RowsEq z0 O' ∧ R (.exit 0) (St.mk [(4, .str (fmtHead (v 0) ++ fmtRest v k))] O' 1 []))) := by kernel_rfl
variable {C : Ctx} [C.Loose]
theorem min_loop (hP : C.P = Tryz.prog) (n : Nat) (v : Nat → Int) : LoopOK C 1 25 (loopC Tryz.f260 5) (L_mm n v (minV v)) := by
  have _ : C.Loose := inferInstance
  rintro st Q ⟨h0, hn, hn2, hQ⟩
  refine LoopOK.mk (prg hP) [] 0 .nil [0, 3, 4] [3] [] (S_mmState n v (minV v)) (fun k => k + 1 ≤ n) (fun k => n - k) 0 hn h0 (fun k hk => ?_) (fun i => ⟨fun _ _ => rfl, trivial⟩)
  rw [nf_min_round]
  refine condP_dec (fun h => ?_) (fun h => ⟨fun _ _ => rfl, _, rowsEq1, ?_⟩)
  · have e : ((k : Int) + 1).toNat = k + 1 := by omega
    simp only [inR, e, and_true]
    exact ⟨by omega, by omega, by omega, k + 1, ⟨rfl, rowsEq1⟩, by omega, by omega⟩
  · have : k = n - 1 := by omega
    rw [this]; exact hQ
theorem max_loop (hP : C.P = Tryz.prog) (n : Nat) (v : Nat → Int) : LoopOK C 1 25 (loopC Tryz.f261 5) (L_mm n v (maxV v)) := by
  have _ : C.Loose := inferInstance
  rintro st Q ⟨h0, hn, hn2, hQ⟩
  refine LoopOK.mk (prg hP) [] 0 .nil [0, 3, 4] [3] [] (S_mmState n v (maxV v)) (fun k => k + 1 ≤ n) (fun k => n - k) 0 hn h0 (fun k hk => ?_) (fun i => ⟨fun _ _ => rfl, trivial⟩)
  rw [nf_max_round]
  refine condP_dec (fun h => ?_) (fun h => ⟨fun _ _ => rfl, _, rowsEq1, ?_⟩)
  · have e : ((k : Int) + 1).toNat = k + 1 := by omega
    simp only [inR, e, and_true]
    exact ⟨by omega, by omega, by omega, k + 1, ⟨rfl, rowsEq1⟩, by omega, by omega⟩
  · have : k = n - 1 := by omega
    rw [this]; exact hQ
theorem min_ok (hP : C.P = Tryz.prog) : SpecOK C 260 S_min := by
  rintro args objs U Os vc h hvc
  unfold S_min at h
  split at h <;> simp only [Option.some.injEq, Prod.mk.injEq, reduceCtorEq] at h
  rename_i n t m f fr
  obtain ⟨rfl, rfl, rfl⟩ := h
  obtain ⟨rfl, rfl, hn, rfl, hn2, hf⟩ := hvc
  generalize vInt f = v at hf
  subst hf
  refine SpecOK.wpL (prg hP) [] [(5, L_mm n v (minV v)), (1002, fun _ _ => False)] 0 .nil (hP ▸ Tryz.func260) rfl rfl rfl
    [(regC Tryz.f260 2, fun _ _ => False), (loopC Tryz.f260 5, L_mm n v (minV v))] (by kernel_rfl) ⟨fun _ _ h => h.elim, min_loop hP n v, trivial⟩ ?_
  show wpFn _ _ _ _ _ _ [.row _ _ _ (fun i => [.int .i64 (v i)]) _] _
  rw [nf_min]
  exact condP_dec (fun h => absurd h (by omega)) (fun _ => ⟨by omega, by omega, ⟨rfl, rowsEq1⟩, hn, hn2, fun _ _ => rfl, _, rowsEq1, rfl, rfl⟩)
theorem max_ok (hP : C.P = Tryz.prog) : SpecOK C 261 S_max := by
  rintro args objs U Os vc h hvc
  unfold S_max at h
  split at h <;> simp only [Option.some.injEq, Prod.mk.injEq, reduceCtorEq] at h
  rename_i n t m f fr
  obtain ⟨rfl, rfl, rfl⟩ := h
  obtain ⟨rfl, rfl, hn, rfl, hn2, hf⟩ := hvc
  generalize vInt f = v at hf
  subst hf
  refine SpecOK.wpL (prg hP) [] [(5, L_mm n v (maxV v)), (1002, fun _ _ => False)] 0 .nil (hP ▸ Tryz.func261) rfl rfl rfl
    [(regC Tryz.f261 2, fun _ _ => False), (loopC Tryz.f261 5, L_mm n v (maxV v))] (by kernel_rfl) ⟨fun _ _ h => h.elim, max_loop hP n v, trivial⟩ ?_
  show wpFn _ _ _ _ _ _ [.row _ _ _ (fun i => [.int .i64 (v i)]) _] _
  rw [nf_max]
  exact condP_dec (fun h => absurd h (by omega)) (fun _ => ⟨by omega, by omega, ⟨rfl, rowsEq1⟩, hn, hn2, fun _ _ => rfl, _, rowsEq1, rfl, rfl⟩)
theorem itoa_ok (hP : C.P = Tryz.prog) : SpecOK C 133 S_itoa := by
  rintro args objs U Os vc h hvc
  unfold S_itoa at h
  split at h <;> simp only [Option.some.injEq, Prod.mk.injEq, reduceCtorEq] at h
  rename_i n
  obtain ⟨rfl, rfl, rfl⟩ := h
  obtain ⟨i, rfl⟩ : ∃ i : Nat, n = i := ⟨n.toNat, by omega⟩
  refine ACalls.below ⟨Tryz.f133, hP ▸ Tryz.func133, rfl, by decide⟩ fun w M cargs _ _ hM hl hv => ?_
  obtain ⟨a, rfl⟩ := mem1 hl
  have := (hv 0 _ _ rfl rfl).int_iff
  subst this
  rw [hP]
  refine (Tryz.strconv_Itoa_small i (by omega) w).mono ?_
  rintro e w' ⟨rfl, rfl⟩
  exact ⟨_, rfl, Below.refl _ _, .str (by simp [decF])⟩
theorem format_loop (hP : C.P = Tryz.prog) (n : Nat) (v : Nat → Int) : LoopOK C 1 49 (loopC Tryz.f244 7) (L_fmt n v) := by
  rintro st Q ⟨h0, hok, hQ⟩
  have hv := fmtOK_at hok
  have hn := fmtOK_n hok
  refine LoopOK.mk (prg hP) [(133, .det S_itoa)] 0 (.cons (itoa_ok hP) .nil) [4, 36, 37, 38] [4] [] (S_fmtState n v) (fun k => k ≤ n - 1) (fun k => n - k) 0 (Nat.zero_le _) h0 (fun k hk => ?_) (fun i => ⟨fun _ _ => rfl, trivial⟩)
  rw [nf_format_round]
  have hl1 := fmtHead_len (hv 0 (by omega))
  have hl2 := fmtRest_len (n := n) (fun i hi => hv i hi) k (by omega)
  refine condP_dec (fun h => ?_) (fun h => ⟨fun _ _ => rfl, _, rowsEq1, ?_⟩)
  · have hlt : k < n - 1 := by omega
    have e : 1 + (k : Int).toNat = k + 1 := by omega
    have hk1 := hv (k + 1) (by omega)
    have hl3 := decF_len hk1
    simp only [inR, e, and_true, List.length_append, List.length_cons, List.length_nil]
    refine ⟨by omega, by omega, by omega, by omega, by omega, by omega, k + 1, ⟨?_, rowsEq1⟩, by omega, by omega⟩
    unfold TEq
    rw [show fmtRest v (k + 1) = fmtRest v k ++ (46 :: decF (v (k + 1))) from rfl]
    simp
  · have : k = n - 1 := by omega
    rw [this]; exact hQ
theorem format_ok (hP : C.P = Tryz.prog) : SpecOK C 244 S_format := by
  rintro args objs U Os vc h hvc
  unfold S_format at h
  split at h <;> simp only [Option.some.injEq, Prod.mk.injEq, reduceCtorEq] at h
  rename_i n t m f fr
  obtain ⟨rfl, rfl, rfl⟩ := h
  obtain ⟨rfl, rfl, rfl, hn2, hf⟩ := hvc
  generalize vInt f = v at hf
  subst hf
  refine SpecOK.wpL (prg hP) [(260, .det S_min), (261, .det S_max), (133, .det S_itoa)] [(7, L_fmt n v)] 0 (.cons (min_ok hP) (.cons (max_ok hP) (.cons (itoa_ok hP) .nil))) (hP ▸ Tryz.func244) rfl rfl rfl
    [(loopC Tryz.f244 7, L_fmt n v)] (by kernel_rfl) ⟨format_loop hP n v, trivial⟩ ?_
  show wpFn _ _ _ _ _ _ [.row _ _ _ (fun i => [.int .i64 (v i)]) _] _
  rw [nf_format]
  have hvi : (vInt fun i => [AV.int .i64 (v i)]) = v := rfl
  rw [hvi]
  have bad : fmtOK n v = false → (AV.tuple [.str [], .int .i64 64] = .tuple [.str (bif fmtOK n v then fmtZ n v else []), .int .i64 (bif fmtOK n v then 0 else 64)]) := fun h => by rw [h]; rfl
  have good : fmtOK n v = true → (AV.tuple [.str (fmtZ n v), .int .i64 0] = .tuple [.str (bif fmtOK n v then fmtZ n v else []), .int .i64 (bif fmtOK n v then 0 else 64)]) := fun h => by rw [h]; rfl
  refine condP_dec (fun h1 => ⟨fun _ _ => rfl, _, rowsEq1, bad ?_, rfl⟩) (fun h1 => condP_dec (fun h2 => ⟨fun _ _ => rfl, _, rowsEq1, bad ?_, rfl⟩) (fun h2 => ⟨fun _ _ => rfl, ⟨rfl, rfl, by omega, rfl, hn2, rfl⟩, fun _ _ => rfl,
    condP_dec (fun h3 => ⟨fun _ _ => rfl, _, rowsEq1, bad ?_, rfl⟩) (fun h3 => ⟨fun _ _ => rfl, ⟨rfl, rfl, by omega, rfl, hn2, rfl⟩, fun _ _ => rfl, condP_dec (fun h4 => ⟨fun _ _ => rfl, _, rowsEq1, bad ?_, rfl⟩) (fun h4 => ?_)⟩)⟩))
  · unfold fmtOK; rw [decide_eq_false (p := 1 ≤ n) (by omega)]; rfl
  · unfold fmtOK; rw [decide_eq_false (p := n ≤ 5) (by omega)]; simp
  · unfold fmtOK; rw [decide_eq_false (p := 1 ≤ minV v (n - 1)) (by omega)]; simp
  · unfold fmtOK; rw [decide_eq_false (p := maxV v (n - 1) ≤ 99) (by omega)]; simp
  · have hok : fmtOK n v = true := by
      unfold fmtOK
      rw [decide_eq_true (p := 1 ≤ n) (by omega), decide_eq_true (p := n ≤ 5) (by omega), decide_eq_true (p := 1 ≤ minV v (n - 1)) (by omega), decide_eq_true (p := maxV v (n - 1) ≤ 99) (by omega)]; rfl
    have hv := fmtOK_at hok 0 (by omega)
    have hl3 := decF_len hv
    refine ⟨by omega, ⟨by omega, rfl⟩, by omega, by omega, ⟨by omega, rfl⟩, condP_dec (fun h5 => ⟨by simp only [List.length_cons, List.length_nil]; omega, by omega, ⟨?_, rowsEq1⟩, hok, fun _ _ => rfl, _, rowsEq1, good hok, rfl⟩) (fun h5 => ⟨by omega, ⟨?_, rowsEq1⟩, hok, fun _ _ => rfl, _, rowsEq1, good hok, rfl⟩)⟩
    · unfold TEq fmtHead
      rw [decide_eq_true h5]
      simp [fmtRest]
    · unfold TEq fmtHead
      rw [decide_eq_false h5]
      simp [fmtRest]
end Go.Eng
namespace Go.Eng
open Go.Proofs Go.RowKit
set_option maxRecDepth 20000
theorem nf_parse (s : List UInt8) (R : AV → List (Nat × AObj) → Prop) : wpFn te [(242, .det S_split), (244, .det S_format)] [(3, L_parse s)] 0 Tryz.f227 [.str s] [] R = (letI z1 := (vInt fun (i : Nat) => [.int .i64 (wordV s i)]); letI z0 := List.length (words s); (List.length s < 4294967281 ∧ [(46 : UInt8)] = [(46 : UInt8)]) ∧ (TEq [(0, .str s), (4, .own 0 0), (12, .view 1 z0 fun (i : Nat) => [.str (List.getD (words s) i [])]), (13, .int .i64 (↑z0 : Int)), (14, .int .i64 0)] [(0, .str s), (4, .own 0 0), (12, .view 1 z0 fun (i : Nat) => [.str (List.getD (words s) i [])]), (13, .int .i64 (↑z0 : Int)), (14, .int .i64 (↑0 : Int))] ∧ RowsEq [(0, .row 3 1 0 (fun (_x : Nat) => []) false)] [(0, .row 3 1 0 (fun (i : Nat) => [.int .i64 (wordV s i)]) false)]) ∧ List.length s < 4294967281 ∧ (∀ (i : Nat), i < List.length (words s) → true = true) ∧ (3 = 3 ∧ false = false ∧ List.length (words s) = List.length (words s) ∧ List.length (words s) ≤ 4611686018427387904 ∧ (fun (i : Nat) => [.int .i64 (wordV s i)]) = intRow z1) ∧ (∀ (i : Nat), i < List.length (words s) → true = true) ∧ condP (!decide ((bif fmtOK z0 z1 then (0 : Int) else (64 : Int)) = (0 : Int))) (R (.tuple [.nil, .int .i64 60]) []) (condP (!decide ((bif fmtOK z0 z1 then fmtZ z0 z1 else []) = s)) (R (.tuple [.nil, .int .i64 60]) []) ((∀ (i : Nat), i < List.length (words s) → true = true) ∧ ∃ (O' : List (Nat × AObj)), RowsEq [(0, .row 3 1 z0 (fun (i : Nat) => [.int .i64 (wordV s i)]) false)] O' ∧ R (.tuple [.own 0 z0, .int .i64 0]) O'))) := by kernel_rfl
theorem nf_parse_round (s : List UInt8) (k : Nat) (P : Nat → Prop) (R : Exit → St → Prop) : roundP ⟨te, [(243, .det S_atoi)], [], 0, 41, 0⟩ (loopB Tryz.f227 3) [0, 4, 12, 13, 14] [0, 4] [] (S_paState s) P R (S_paState s k) = (letI z2 := (List.getD (words s) (Int.toNat (↑k : Int)) []); letI z1 := TI.mk (TypeDesc.int IntKind.i64) 1 8 (Value.int IntKind.i64 0) false; letI z0 := List.length (words s); condP (decide ((↑k : Int) < (↑z0 : Int))) (((0 : Int) ≤ (↑k : Int) ∧ (↑k : Int) < (↑z0 : Int) ∧ 1 = 1) ∧ List.length z2 ≤ 281474976710656 ∧ (1 ≤ 16777216 ∧ 1 = 1 ∧ 1 ≤ 9223372036854775807) ∧ ((1 ≤ 1 ∧ 1 = 1) ∧ k ≤ k ∧ 1 = 1 ∧ 3 = 3 ∧ 1 = 1 ∧ k + 1 ≤ 9223372036854775807 ∧ (k + 1) * TI.bytes z1 ≤ 140737488355328) ∧ inR .i64 ((↑k : Int) + (1 : Int)) ∧ ∃ (i' : Nat), (TEq [(0, .str s), (4, .own 0 (k + 1)), (12, .view 1 z0 fun (i : Nat) => [.str (List.getD (words s) i [])]), (13, .int .i64 (↑z0 : Int)), (14, .int .i64 ((↑k : Int) + (1 : Int)))] [(0, .str s), (4, .own 0 i'), (12, .view 1 z0 fun (i : Nat) => [.str (List.getD (words s) i [])]), (13, .int .i64 (↑z0 : Int)), (14, .int .i64 (↑i' : Int))] ∧ RowsEq [(0, .row 3 1 (k + 1) (apF k (fun (i : Nat) => [.int .i64 (wordV s i)]) (chunkA (TI.sz z1) (.int .i64 (atoiZ z2) :: List.append [] (List.flatten (List.replicate (nat_lit 0) [.int .i64 0]))))) false)] [(0, .row 3 1 i' (fun (i : Nat) => [.int .i64 (wordV s i)]) false)]) ∧ P i') ((∀ (i : Nat), i < k → true = true) ∧ ∃ (O' : List (Nat × AObj)), RowsEq [(0, .row 3 1 k (fun (i : Nat) => [.int .i64 (wordV s i)]) false)] O' ∧ R (.exit 0) (St.mk [(0, .str s), (4, .own 0 k)] O' 1 []))) := by kernel_rfl
variable {C : Ctx} [C.Loose]
theorem split_ok (hP : C.P = Tryz.prog) (hL : ∀ w, C.laid w → LaidW w) : SpecOK C 242 S_split := by
  rintro args objs U Os vc h hvc
  unfold S_split at h
  split at h <;> simp only [Option.some.injEq, Prod.mk.injEq, reduceCtorEq] at h
  rename_i s sep
  obtain ⟨rfl, rfl, rfl⟩ := h
  obtain ⟨hs, rfl⟩ := hvc
  refine ACalls.below ⟨Tryz.f242, hP ▸ Tryz.func242, rfl, by decide⟩ fun w M cargs hlaid _ hM hl hv => ?_
  obtain ⟨m, hm⟩ := (hL w hlaid).maxLen
  obtain ⟨a, b, rfl⟩ := mem2 hl
  have e1 := (hv 0 _ _ rfl rfl).str_iff
  have e2 := (hv 1 _ _ rfl rfl).str_iff
  subst e1; subst e2
  rw [hP]
  refine (Tryz.strings_Split ⟨s.toArray⟩ ⟨#[46]⟩ m w (by simpa [ByteArray.size] using hs) hm (by decide)).mono ?_
  rintro e w' ⟨rfl, rfl⟩
  have hd := Lib.splitB_data ⟨#[46]⟩ 0 (Lib.countB ⟨s.toArray⟩ ⟨#[46]⟩) ⟨s.toArray⟩
  have hw : (Lib.splitB ⟨#[46]⟩ 0 (Lib.countB ⟨s.toArray⟩ ⟨#[46]⟩) ⟨s.toArray⟩).map (·.data.toList) = words s := by
    rw [hd]
    simp [words, Lib.split]
  have hlen : (Lib.splitB ⟨#[46]⟩ 0 (Lib.countB ⟨s.toArray⟩ ⟨#[46]⟩) ⟨s.toArray⟩).length = (words s).length := by rw [← hw]; simp
  have hcnt : Lib.countB ⟨s.toArray⟩ ⟨#[46]⟩ + 1 = (words s).length := by
    rw [words_len]
  refine ⟨_, rfl, (Below.refl _ _).alloc (Nat.le_refl _) _, ?_⟩
  rw [hcnt]
  have hle := Lib.count_le s [46]
  refine V.newview hM (by simp [hlen]) (by rw [words_len]; unfold maxLen; omega) (fun i v hv => ?_) (fun i v hv => ?_)
  · rw [List.getElem?_toArray, List.getElem?_map] at hv
    obtain ⟨x, _, rfl⟩ := Option.map_eq_some_iff.1 hv
    exact rfl
  · simp at hv
    obtain ⟨x, hx, rfl⟩ := hv
    refine ⟨_, rfl, .str ?_⟩
    have : (words s)[i]? = some x.data.toList := by rw [← hw]; simp [hx]
    simp [List.getD, this]
theorem atoi_ok (hP : C.P = Tryz.prog) (hL : ∀ w, C.laid w → LaidW w) : SpecOK C 243 S_atoi := by
  rintro args objs U Os vc h hvc
  unfold S_atoi at h
  split at h <;> simp only [Option.some.injEq, Prod.mk.injEq, reduceCtorEq] at h
  rename_i s
  obtain ⟨rfl, rfl, rfl⟩ := h
  refine ACalls.below ⟨Tryz.f243, hP ▸ Tryz.func243, rfl, by decide⟩ fun w M cargs hlaid _ hM hl hv => ?_
  obtain ⟨a, rfl⟩ := mem1 hl
  have e1 := (hv 0 _ _ rfl rfl).str_iff
  subst e1
  rw [hP]
  have hsz : (⟨s.toArray⟩ : ByteArray).size = s.length := by simp [ByteArray.size]
  have hdt : (⟨s.toArray⟩ : ByteArray).data.toList = s := by simp
  have tup : ∀ (w' : World) (n : Int) (e : Value), V w' M nob (.tuple #[.int .i64 n, e]) (.tuple [.int .i64 n, .any]) := fun w' n e => .tuple rfl fun j v u hv hu => by
    match j with
    | 0 => simp at hv hu; subst hv; subst hu; exact .int
    | 1 => simp at hv hu; subst hv; subst hu; exact .any
    | j + 2 => simp at hv
  unfold atoiZ
  cases hh : Lib.atoiAll s with
  | ok v =>
    refine (Tryz.strconv_Atoi_ok ⟨s.toArray⟩ (by omega) v (by rw [hdt]; exact hh) w).mono ?_
    rintro e w' ⟨rfl, hw⟩
    refine ⟨_, rfl, ?_, tup _ _ _⟩
    rcases hw with rfl | ⟨t, rfl⟩
    · exact Below.refl _ _
    · exact Lib.bytesWorld_below _ _ _
  | range =>
    obtain ⟨t, p, he⟩ := (hL w hlaid).errR
    refine (Any.strconv_Atoi_range Tryz.laysC172 ⟨s.toArray⟩ (by omega) (by rw [hdt]; exact hh) _ w he (.inr ⟨t, p, rfl⟩)).mono ?_
    rintro e w' ⟨N, rfl, _, _, hb⟩
    rw [hdt]
    exact ⟨_, rfl, hb, tup _ _ _⟩
  | _ =>
    obtain ⟨t, p, he⟩ := (hL w hlaid).errS
    refine (Any.strconv_Atoi_syntax Tryz.laysC172 ⟨s.toArray⟩ (by omega) (by rw [hdt]; exact hh) _ w he (.inr ⟨t, p, rfl⟩)).mono ?_
    rintro e w' ⟨N, rfl, _, _, hb⟩
    exact ⟨_, rfl, hb, tup _ _ _⟩
theorem parse_loop (hP : C.P = Tryz.prog) (hL : ∀ w, C.laid w → LaidW w) (s : List UInt8) : LoopOK C 0 41 (loopC Tryz.f227 3) (L_parse s) := by
  rintro st Q ⟨h0, hs, hQ⟩
  refine AWP.ownNil 4 3 1 ?_
  have hwl : (words s).length ≤ s.length + 2 := by
    have := Lib.count_le s [46]
    rw [words_len]; omega
  refine LoopOK.mk (prg hP) [(243, .det S_atoi)] 0 (.cons (atoi_ok hP hL) .nil) [0, 4, 12, 13, 14] [0, 4] [] (S_paState s) (fun k => k ≤ (words s).length) (fun k => (words s).length - k) 0 (Nat.zero_le _) h0 (fun k hk => ?_) (fun i => ⟨fun _ _ => rfl, trivial⟩)
  rw [nf_parse_round]
  refine condP_dec (fun h => ?_) (fun h => ⟨fun _ _ => rfl, _, rowsEq1, ?_⟩)
  · have hlt : k < (words s).length := by omega
    have hlw : ((words s).getD k []).length ≤ s.length := by
      have := words_le s ((words s).getD k []) (by simp [List.getD, hlt])
      exact this
    have hrow : ∀ i, i < k + 1 → apF k (fun i => [AV.int .i64 (wordV s i)]) (chunkA 1 [.int .i64 (atoiZ ((words s).getD k []))]) i = [.int .i64 (wordV s i)] := by
      intro i hi
      unfold apF
      split
      · rfl
      · have : i = k := by omega
        subst this
        rw [Nat.sub_self]; rfl
    simp only [inR, Int.toNat_natCast]
    and_intros
    any_goals omega
    any_goals (simp; done)
    exact ⟨k + 1, ⟨rfl, ⟨rfl, rfl, rfl, rfl, rfl, hrow⟩, trivial⟩, by omega, by omega⟩
  · have : k = (words s).length := by omega
    rw [this] at *
    exact hQ
theorem parse_ok (hP : C.P = Tryz.prog) (hL : ∀ w, C.laid w → LaidW w) : RSpecOK C 227 R_parse := by
  rintro args objs R h
  unfold R_parse at h
  split at h
  · rename_i s
    obtain ⟨hs, hR⟩ := h
    have hR := condP_elim hR
    refine RSpecOK.wpL (prg hP) [(242, .det S_split), (244, .det S_format)] [(3, L_parse s)] 0 (.cons (split_ok hP hL) (.cons (format_ok hP) .nil)) (hP ▸ Tryz.func227) rfl rfl rfl
      [(loopC Tryz.f227 3, L_parse s)] (by kernel_rfl) ⟨parse_loop hP hL s, trivial⟩ ?_
    rw [nf_parse]
    have hvi : (vInt fun i => [AV.int .i64 (wordV s i)]) = wordV s := rfl
    rw [hvi]
    have hwl : (words s).length ≤ s.length + 2 := by
      have := Lib.count_le s [46]
      rw [words_len]; omega
    refine ⟨⟨hs, rfl⟩, ⟨rfl, ⟨rfl, rfl, rfl, rfl, rfl, fun i hi => by omega⟩, trivial⟩, hs, fun _ _ => rfl, ⟨rfl, rfl, rfl, by omega, rfl⟩, fun _ _ => rfl, ?_⟩
    cases hok : fmtOK (words s).length (wordV s) with
    | false => exact hR.2 (by unfold parseOK; rw [hok]; rfl)
    | true =>
      have e0 : (!decide ((bif true then (0 : Int) else 64) = 0)) = false := rfl
      rw [e0]
      show condP (!decide (fmtZ (words s).length (wordV s) = s)) _ _
      refine condP_ndec (fun h1 => hR.2 ?_) (fun h1 => ⟨fun _ _ => rfl, _, rowsEq1, hR.1 ?_⟩)
      · unfold parseOK; rw [hok, decide_eq_false h1]; rfl
      · unfold parseOK; rw [hok]; exact decide_eq_true h1
  · exact h.elim
end Go.Eng
namespace Go.Eng
open Go.Proofs Go.RowKit
variable {C : Ctx} [C.Loose]
set_option maxRecDepth 20000
theorem nf_level (s : List UInt8) (R : AV → List (Nat × AObj) → Prop) : wpFn te [(227, .rel R_parse)] [] 0 Tryz.f198 [.str s] [] R = (List.length s < 4294967281 ∧ condP (parseOK s) ((∀ (i : Nat), i < List.length (words s) → true = true) ∧ R (.int .i64 (↑(List.length (words s)) : Int)) []) (condP (!decide (s = [])) (R (.int .i64 (-1 : Int)) []) (R (.int .i64 0) []))) := by kernel_rfl
theorem level_ok (hP : C.P = Tryz.prog) (hL : ∀ w, C.laid w → LaidW w) : SpecOK C 198 S_level := by
  rintro args objs U Os vc h hvc
  unfold S_level at h
  split at h <;> simp only [Option.some.injEq, Prod.mk.injEq, reduceCtorEq] at h
  rename_i s
  obtain ⟨rfl, rfl, rfl⟩ := h
  refine SpecOK.wp0 (prg hP) [(227, .rel R_parse)] 0 (.cons (parse_ok hP hL) .nil) (hP ▸ Tryz.func198) rfl rfl rfl ?_
  rw [nf_level]
  refine ⟨hvc, condP_intro (fun h => ⟨fun _ _ => rfl, ?_, rfl⟩) (fun h => condP_ndec (fun h' => ⟨?_, rfl⟩) (fun h' => ⟨?_, rfl⟩))⟩
  · unfold levelV; rw [h]
  · unfold levelV; rw [h, decide_eq_false h']
  · unfold levelV; rw [h, decide_eq_true h']
end Go.Eng
namespace Go.Eng
open Go.Proofs Go.RowKit
set_option maxRecDepth 20000
theorem nf_qty (d c a : Int) (R : AV → List (Nat × AObj) → Prop) : wpFn te [] [] 0 Tryz.f200 [.agg [.int .i64 d, .int .i64 c, .int .i64 a]] [] R = (condP (decide (d < (1 : Int))) (R (.int .i64 80) []) (condP (decide ((4 : Int) < d)) (R (.int .i64 80) []) (condP (decide (c < (1 : Int))) (R (.int .i64 81) []) (condP (decide ((100 : Int) < c)) (R (.int .i64 81) []) (condP (decide (a < (1 : Int))) (R (.int .i64 82) []) ((c ≠ (0 : Int) ∧ inR .i64 (Int.tdiv (1099511627776 : Int) c)) ∧ condP (decide (Int.tdiv (1099511627776 : Int) c < a)) (R (.int .i64 82) []) (R (.int .i64 0) []))))))) := by kernel_rfl
variable {C : Ctx} [C.Loose]
theorem qty_ok (hP : C.P = Tryz.prog) : SpecOK C 200 S_qty := by
  have _ : C.Loose := inferInstance
  rintro args objs U Os vc h hvc
  unfold S_qty at h
  split at h <;> simp only [Option.some.injEq, Prod.mk.injEq, reduceCtorEq] at h
  rename_i d c a
  obtain ⟨rfl, rfl, rfl⟩ := h
  refine SpecOK.wp0 (prg hP) [] 0 .nil (hP ▸ Tryz.func200) rfl rfl rfl ?_
  rw [nf_qty]
  refine condP_intro (fun h1 => ?_) (fun h1 => condP_intro (fun h2 => ?_) (fun h2 => condP_intro (fun h3 => ?_) (fun h3 => condP_intro (fun h4 => ?_) (fun h4 => condP_intro (fun h5 => ?_) (fun h5 => ⟨qty_bound (of_decide_eq_false h3) (of_decide_eq_false h4), condP_intro (fun h6 => ?_) (fun h6 => ?_)⟩)))))
  all_goals simp only [qtyF, *, cond_true, cond_false, and_self]
end Go.Eng
namespace Go.Eng
open Go.Proofs Go.RowKit
set_option maxRecDepth 20000
theorem nf_indexRune (s : List UInt8) (r : Int) (R : AV → List (Nat × AObj) → Prop) : wpFn te [(266, .det S_indexByte), (267, .det S_validRune)] [(38, L_irError s), (5, L_irMain s (Utf8.encode r).data.toList), (25, fun _ _ => False)] 0 Tryz.f253 [.str s, .int .i32 r] [] R = (letI z3 := St.mk [(0, .str s), (175, .ptr 0 0)] [(0, .siter s 0)] 1 []; letI z1 := Array.toList (ByteArray.data (Utf8.encode r)); letI z4 := (↑(List.length z1) : Int); letI z2 := (St.mk [(0, .str s), (7, .str z1), (8, .int .i64 (z4 - (1 : Int))), (9, .int .i64 (z4 - (1 : Int)))] [] 0 []); letI z0 := (condP (decide (r = (65533 : Int))) (some z3 = some z3 ∧ ascii s = true ∧ R (.int .i64 (-1 : Int)) []) (True ∧ condP (!Lib.validRune r) (R (.int .i64 (-1 : Int)) []) (True ∧ inR .i64 (z4 - (1 : Int)) ∧ some z2 = some z2 ∧ ascii s = true ∧ List.length s ≤ 1000000 ∧ 2 ≤ List.length z1 ∧ List.length z1 ≤ 4 ∧ 128 ≤ UInt8.toNat (List.getD z1 (List.length z1 - 1) (0 : UInt8)) ∧ R (.int .i64 (-1 : Int)) [] ∧ R (.int .i64 (-1 : Int)) []))); condP (decide ((0 : Int) ≤ r)) (condP (decide (r < (128 : Int))) (inR .u8 r ∧ True ∧ R (.int .i64 (Lib.indexByte s (Nat.toUInt8 (Int.toNat r)))) []) z0) z0) := by kernel_rfl
theorem nf_irError (s : List UInt8) (k : Nat) (P : Nat → Prop) (R : Exit → St → Prop) : roundP ⟨te, [], [], 0, 187, 0⟩ (loopB Tryz.f253 38) [0, 175] [] [4] (S_irState s) P R (S_irState s k) = (condP (decide (k < List.length s)) (True ∧ condP (decide ((↑(Prod.fst (runeAt s k)) : Int) = (65533 : Int))) (R .ret (St.mk [(4, .int .i64 (↑k : Int))] [] 0 [])) (∃ (i' : Nat), some (St.mk [(0, .str s), (175, .ptr 0 0)] [(0, .siter s (k + Prod.snd (runeAt s k)))] 1 []) = some (St.mk [(0, .str s), (175, .ptr 0 0)] [(0, .siter s i')] 1 []) ∧ P i')) (True ∧ R (.exit 9) (St.mk [] [] 0 []))) := by kernel_rfl
theorem nf_irMain (s e : List UInt8) (P : Unit → Prop) (R : Exit → St → Prop) : roundP ⟨te, [(266, .det S_indexByte)], [(12, fun _ _ => False), (1015, fun _ _ => False), (1016, fun _ _ => False)], 0, 187, 0⟩ (loopB Tryz.f253 5) [0, 7, 8, 9] [] [4] (fun _ => S_irState2 s e) P R (S_irState2 s e) = (letI z4 := (↑(List.length s) : Int); letI z0 := (↑(List.length e) : Int); letI z3 := (List.drop (Int.toNat (z0 - (1 : Int) + (1 : Int))) s); letI z1 := (↑(UInt8.toNat (List.getD e (Int.toNat (z0 - (1 : Int))) (0 : UInt8))) : Int); letI z2 := (Lib.indexByte z3 (Nat.toUInt8 (Int.toNat z1)) + (1 : Int)); condP (decide (z0 - (1 : Int) < z4)) (((0 : Int) ≤ z0 - (1 : Int) ∧ z0 - (1 : Int) < z4) ∧ ((0 : Int) ≤ z0 - (1 : Int) ∧ z0 - (1 : Int) < z0) ∧ condP (!decide ((↑(UInt8.toNat (List.getD s (Int.toNat (z0 - (1 : Int))) (0 : UInt8))) : Int) = z1)) (inR .i64 (z0 - (1 : Int) + (1 : Int)) ∧ ((0 : Int) ≤ z0 - (1 : Int) + (1 : Int) ∧ z0 - (1 : Int) + (1 : Int) ≤ z4) ∧ ((0 : Int) ≤ z0 - (1 : Int) ∧ z0 - (1 : Int) < z0) ∧ True ∧ condP (decide (Lib.indexByte z3 (Nat.toUInt8 (Int.toNat z1)) < (0 : Int))) (R .ret (St.mk [(4, .int .i64 (-1 : Int))] [] 0 [])) (inR .i64 z2 ∧ inR .i64 (z0 - (1 : Int) + z2) ∧ False)) False) (R (.exit 1) (St.mk [] [] 0 []))) := by kernel_rfl
theorem nf_containsRune (s : List UInt8) (r : Int) (R : AV → List (Nat × AObj) → Prop) : wpFn te [(253, .det S_indexRune)] [] 0 Tryz.f231 [.str s, .int .i32 r] [] R = ((ascii s = true ∧ List.length s ≤ 1000000 ∧ (0 : Int) ≤ r ∧ r ≤ (1114111 : Int)) ∧ R (.bool (decide ((0 : Int) ≤ idxRune s r))) []) := by kernel_rfl
variable {C : Ctx} [C.Loose]
theorem indexByte_ok (hP : C.P = Tryz.prog) : SpecOK C 266 S_indexByte := by
  rintro args objs U Os vc h hvc
  unfold S_indexByte at h
  split at h <;> simp only [Option.some.injEq, Prod.mk.injEq, reduceCtorEq] at h
  rename_i s c
  obtain ⟨rfl, rfl, rfl⟩ := h
  refine ACalls.below ⟨Tryz.f266, hP ▸ Tryz.func266, rfl, by decide⟩ fun w M cargs _ _ hM hl hv => ?_
  obtain ⟨a, b, rfl⟩ := mem2 hl
  have e1 := (hv 0 _ _ rfl rfl).str_iff
  have e2 := (hv 1 _ _ rfl rfl).int_iff
  subst e1; subst e2
  rw [hP]
  refine (Tryz.strings_IndexByte ⟨s.toArray⟩ c w).mono ?_
  rintro e w' ⟨rfl, rfl⟩
  exact ⟨_, rfl, Below.refl _ _, .int⟩
theorem validRune_ok (hP : C.P = Tryz.prog) : SpecOK C 267 S_validRune := by
  rintro args objs U Os vc h hvc
  unfold S_validRune at h
  split at h <;> simp only [Option.some.injEq, Prod.mk.injEq, reduceCtorEq] at h
  rename_i r
  obtain ⟨rfl, rfl, rfl⟩ := h
  refine ACalls.below ⟨Tryz.f267, hP ▸ Tryz.func267, rfl, by decide⟩ fun w M cargs _ _ hM hl hv => ?_
  obtain ⟨a, rfl⟩ := mem1 hl
  have e1 := (hv 0 _ _ rfl rfl).int_iff
  subst e1
  rw [hP]
  refine (Tryz.utf8_ValidRune r w).mono ?_
  rintro e w' ⟨rfl, rfl⟩
  exact ⟨_, rfl, Below.refl _ _, .bool⟩
theorem irError_ok (hP : C.P = Tryz.prog) (s : List UInt8) : LoopOK C 0 187 (loopC Tryz.f253 38) (L_irError s) := by
  have _ : C.Loose := inferInstance
  rintro st Q ⟨h0, ha, hQ⟩
  refine LoopOK.mk (prg hP) [] 0 .nil [0, 175] [] [4] (S_irState s) (fun k => k ≤ s.length) (fun k => s.length - k) 0 (Nat.zero_le _) h0 fun k hk => ?_
  rw [nf_irError]
  refine condP_intro (fun h => ?_) (fun h => ⟨trivial, hQ⟩)
  have h := of_decide_eq_true h
  have hlt := ascii_at ha h
  rw [runeAt_lo h hlt]
  refine ⟨trivial, condP_intro (fun h' => ?_) (fun _ => ⟨k + 1, rfl, by omega, by omega⟩)⟩
  have h' := of_decide_eq_true h'
  simp only at h'
  omega
theorem irMain_ok (hP : C.P = Tryz.prog) (s e : List UInt8) : LoopOK C 0 187 (loopC Tryz.f253 5) (L_irMain s e) := by
  rintro st Q ⟨h0, ha, hs, h2, h4, hl, hQ1, hQ2⟩
  refine LoopOK.mkL (prg hP) [(266, .det S_indexByte)] [(12, fun _ _ => False), (1015, fun _ _ => False), (1016, fun _ _ => False)] 0 (.cons (indexByte_ok hP) .nil)
    [(loopC Tryz.f253 12, fun _ _ => False), (regC Tryz.f253 15, fun _ _ => False), (regC Tryz.f253 16, fun _ _ => False)] (by kernel_rfl)
    ⟨fun _ _ h => h.elim, fun _ _ h => h.elim, fun _ _ h => h.elim, trivial⟩ [0, 7, 8, 9] [] [4] (fun _ : Unit => S_irState2 s e) (fun _ => True) (fun _ => 0) () trivial h0 fun _ _ => ?_
  rw [nf_irMain]
  refine condP_intro (fun h => ?_) (fun h => hQ1)
  have h := of_decide_eq_true h
  have e1 : ((e.length : Int) - 1).toNat = e.length - 1 := by omega
  have e2 : ((e.length : Int) - 1 + 1).toNat = e.length := by omega
  have hlo := ascii_at ha (k := e.length - 1) (by omega)
  simp only [e1, e2, inR]
  have hne : decide (((s.getD (e.length - 1) 0).toNat : Int) = ((e.getD (e.length - 1) 0).toNat : Int)) = false := decide_eq_false (by omega)
  rw [hne]
  have hb : (e.getD (e.length - 1) 0).toNat < 256 := (e.getD (e.length - 1) 0).toNat_lt
  have hneg := indexByte_ascii (ascii_drop ha e.length) (c := ((e.getD (e.length - 1) 0).toNat : Int).toNat.toUInt8) (by rw [u8_round]; exact hl)
  refine ⟨by omega, by omega, by omega, by omega, by omega, trivial, ?_⟩
  rw [hneg]
  exact hQ2
theorem indexRune_ok (hP : C.P = Tryz.prog) : SpecOK C 253 S_indexRune := by
  rintro args objs U Os vc h hvc
  unfold S_indexRune at h
  split at h <;> simp only [Option.some.injEq, Prod.mk.injEq, reduceCtorEq] at h
  rename_i s r
  obtain ⟨rfl, rfl, rfl⟩ := h
  obtain ⟨ha, hs, h0, h1⟩ := hvc
  refine SpecOK.wpL (prg hP) [(266, .det S_indexByte), (267, .det S_validRune)] [(38, L_irError s), (5, L_irMain s (Utf8.encode r).data.toList), (25, fun _ _ => False)] 0
    (.cons (indexByte_ok hP) (.cons (validRune_ok hP) .nil)) (hP ▸ Tryz.func253) rfl rfl rfl
    [(loopC Tryz.f253 38, L_irError s), (loopC Tryz.f253 5, L_irMain s (Utf8.encode r).data.toList), (loopC Tryz.f253 25, fun _ _ => False)] (by kernel_rfl)
    ⟨irError_ok hP s, irMain_ok hP s _, fun _ _ h => h.elim, trivial⟩ ?_
  rw [nf_indexRune]
  refine condP_intro (fun _ => condP_intro (fun h => ?_) (fun h => ?_)) (fun h => absurd h0 (of_decide_eq_false h))
  · have h' := of_decide_eq_true h
    refine ⟨by simp only [inR]; omega, trivial, ?_, rfl⟩
    simp only [idxRune, h]
  · have h' := of_decide_eq_false h
    refine condP_intro (fun _ => ⟨rfl, ha, ?_, rfl⟩) (fun _ => ⟨trivial, condP_intro (fun _ => ⟨?_, rfl⟩) (fun hv => ?_)⟩)
    · simp only [idxRune, h]
    · simp only [idxRune, h]
    · have hv : Lib.validRune r = true := by simpa using hv
      obtain ⟨l1, l2, l3⟩ := encode_last (by omega) hv
      refine ⟨trivial, by simp only [inR]; omega, rfl, ha, hs, l1, l2, l3, ⟨?_, rfl⟩, ⟨?_, rfl⟩⟩
      · simp only [idxRune, h]
      · simp only [idxRune, h]
theorem containsRune_ok (hP : C.P = Tryz.prog) : SpecOK C 231 S_containsRune := by
  rintro args objs U Os vc h hvc
  unfold S_containsRune at h
  split at h <;> simp only [Option.some.injEq, Prod.mk.injEq, reduceCtorEq] at h
  rename_i s r
  obtain ⟨rfl, rfl, rfl⟩ := h
  refine SpecOK.wp0 (prg hP) [(253, .det S_indexRune)] 0 (.cons (indexRune_ok hP) .nil) (hP ▸ Tryz.func231) rfl rfl rfl ?_
  rw [nf_containsRune]
  exact ⟨hvc, rfl, rfl⟩
end Go.Eng
namespace Go.Eng
open Go.Proofs Go.RowKit
set_option maxRecDepth 20000
theorem nf_name1 (r : Int) (R : AV → List (Nat × AObj) → Prop) : wpFn te [(231, .det S_containsRune)] [] 0 Tryz.f230 [.int .i32 r] [] R = ((true = true ∧ 38 ≤ 1000000 ∧ (0 : Int) ≤ r ∧ r ≤ (1114111 : Int)) ∧ R (.bool !decide ((0 : Int) ≤ idxRune ([(97 : UInt8), 98, 99, 100, 101, 102, 103, 104, 105, 106, 107, 108, 109, 110, 111, 112, 113, 114, 115, 116, 117, 118, 119, 120, 121, 122, 48, 49, 50, 51, 52, 53, 54, 55, 56, 57, 45, 46]) r)) []) := by kernel_rfl
theorem nf_indexFunc (s : List UInt8) (R : AV → List (Nat × AObj) → Prop) : wpFn te [] [(2, L_indexFunc s)] 0 Tryz.f265 [.str s, .func 230 [], .bool true] [] R = (letI z0 := St.mk [(1, .func 230 []), (2, .bool true), (10, .ptr 0 0)] [(0, .siter s 0)] 1 []; some z0 = some z0 ∧ condP (List.all s isNB) (R (.int .i64 (-1 : Int)) []) (R (.int .i64 (↑(badAt s) : Int)) [])) := by kernel_rfl
theorem nf_indexFunc_round (s : List UInt8) (k : Nat) (P : Nat → Prop) (R : Exit → St → Prop) : roundP ⟨te, [(230, .det S_name1)], [], 0, 21, 0⟩ (loopB Tryz.f265 2) [1, 2, 10] [] [6] (S_ifState s) P R (S_ifState s k) = (letI z1 := ([(1, .func 230 []), (2, .bool true), (10, .ptr 0 0)] : List (Nat × AV)); letI z0 := (↑(Prod.fst (runeAt s k)) : Int); condP (decide (k < List.length s)) (True ∧ ((0 : Int) ≤ z0 ∧ z0 ≤ (1114111 : Int)) ∧ condP (decide ((!decide ((0 : Int) ≤ idxRune nameAll z0)) = true)) (R .ret (St.mk [(6, .int .i64 (↑k : Int))] [] 0 [])) (∃ (i' : Nat), some (St.mk z1 [(0, .siter s (k + Prod.snd (runeAt s k)))] 1 []) = some (St.mk z1 [(0, .siter s i')] 1 []) ∧ P i')) (True ∧ R (.exit 0) (St.mk [] [] 0 []))) := by kernel_rfl
theorem nf_IndexFunc (s : List UInt8) (R : AV → List (Nat × AObj) → Prop) : wpFn te [(265, .det S_indexFunc)] [] 0 Tryz.f252 [.str s, .func 230 []] [] R = (True ∧ R (.int .i64 (firstBad s)) []) := by kernel_rfl
theorem nf_ContainsFunc (s : List UInt8) (R : AV → List (Nat × AObj) → Prop) : wpFn te [(252, .det S_IndexFunc)] [] 0 Tryz.f229 [.str s, .func 230 []] [] R = (True ∧ R (.bool (decide ((0 : Int) ≤ firstBad s))) []) := by kernel_rfl
theorem nf_name (s : List UInt8) (R : AV → List (Nat × AObj) → Prop) : wpFn te [(228, .det S_trim), (229, .det S_ContainsFunc)] [] 0 Tryz.f199 [.str s] [] R = (condP (!decide (s = [])) (condP (decide ((↑(List.length s) : Int) ≤ (24 : Int))) (((0 : Int) ≤ (1 : Int) ∧ (1 : Int) ≤ (↑(List.length s) : Int)) ∧ (List.length (List.take (Int.toNat (1 : Int)) s) ≤ 9223372036854775807 ∧ 2 ≤ 36 ∧ 36 < 4294967281 ∧ ∀ (b : UInt8), b ∈ [(97 : UInt8), 98, 99, 100, 101, 102, 103, 104, 105, 106, 107, 108, 109, 110, 111, 112, 113, 114, 115, 116, 117, 118, 119, 120, 121, 122, 48, 49, 50, 51, 52, 53, 54, 55, 56, 57] → UInt8.toNat b < 128) ∧ condP (decide (trimF ([(97 : UInt8), 98, 99, 100, 101, 102, 103, 104, 105, 106, 107, 108, 109, 110, 111, 112, 113, 114, 115, 116, 117, 118, 119, 120, 121, 122, 48, 49, 50, 51, 52, 53, 54, 55, 56, 57]) (List.take (Int.toNat (1 : Int)) s) = [])) (True ∧ R (.bool !!List.all s isNB) []) (R (.bool false) [])) (R (.bool false) [])) (R (.bool false) [])) := by kernel_rfl
variable {C : Ctx} [C.Loose]
theorem name1_ok (hP : C.P = Tryz.prog) : SpecOK C 230 S_name1 := by
  rintro args objs U Os vc h hvc
  unfold S_name1 at h
  split at h <;> simp only [Option.some.injEq, Prod.mk.injEq, reduceCtorEq] at h
  rename_i r
  obtain ⟨rfl, rfl, rfl⟩ := h
  refine SpecOK.wp0 (prg hP) [(231, .det S_containsRune)] 0 (.cons (containsRune_ok hP) .nil) (hP ▸ Tryz.func230) rfl rfl rfl ?_
  rw [nf_name1]
  exact ⟨⟨rfl, by omega, hvc.1, hvc.2⟩, rfl, rfl⟩
theorem indexFunc_loop (hP : C.P = Tryz.prog) (s : List UInt8) : LoopOK C 0 21 (loopC Tryz.f265 2) (L_indexFunc s) := by
  rintro st Q ⟨h0, hQ⟩
  have hQ := condP_elim hQ
  refine LoopOK.mk (prg hP) [(230, .det S_name1)] 0 (.cons (name1_ok hP) .nil) [1, 2, 10] [] [6] (S_ifState s) (fun k => k ≤ s.length ∧ ∀ j, j < k → isNB (s.getD j 0) = true) (fun k => s.length - k) 0 ⟨Nat.zero_le _, fun j h => by omega⟩ h0 fun k ⟨hk, hall⟩ => ?_
  rw [nf_indexFunc_round]
  refine condP_intro (fun h => ?_) (fun h => ⟨trivial, ?_⟩)
  · have h := of_decide_eq_true h
    have hle := runeAt_le h
    refine ⟨trivial, ⟨by omega, by omega⟩, ?_⟩
    -- what the predicate says of the rune is what isNB says of the byte
    have key : (decide (0 ≤ idxRune nameAll ((runeAt s k).1 : Int))) = isNB (s.getD k 0) ∧ (isNB (s.getD k 0) = true → (runeAt s k).2 = 1) := by
      by_cases hlo : (s.getD k 0).toNat < 128
      · rw [runeAt_lo h hlo]
        exact ⟨nameRune_lo _ hlo, fun _ => rfl⟩
      · have hh := runeAt_hi h (by omega)
        have hn : isNB (s.getD k 0) = false := by
          generalize s.getD k 0 = b at *
          simp only [isNB, isLet, Bool.or_eq_false_iff, Bool.and_eq_false_imp, decide_eq_true_eq, decide_eq_false_iff_not]
          omega
        rw [nameRune_hi _ hh.1, hn]
        exact ⟨rfl, fun h => by cases h⟩
    rw [key.1]
    refine condP_intro (fun hb => ?_) (fun hb => ?_)
    · have hb : isNB (s.getD k 0) = false := by simpa using hb
      have hf : s.all isNB = false := by
        cases ha : s.all isNB with
        | false => rfl
        | true =>
          have := List.all_eq_true.1 ha (s.getD k 0) (by simp [List.getD, h])
          rw [hb] at this; cases this
      obtain ⟨b1, b2, b3⟩ := badAt_spec hf
      have : badAt s = k := by
        rcases Nat.lt_trichotomy (badAt s) k with hl | hl | hl
        · rw [hall _ hl] at b2; cases b2
        · exact hl
        · rw [b3 k hl] at hb; cases hb
      have hq := hQ.2 hf
      rw [this] at hq
      exact hq
    · have hb : isNB (s.getD k 0) = true := by simpa using hb
      rw [key.2 hb]
      refine ⟨k + 1, rfl, ⟨by omega, fun j hj => ?_⟩, by omega⟩
      rcases Nat.lt_succ_iff_lt_or_eq.1 hj with hj | rfl
      · exact hall j hj
      · exact hb
  · have h := of_decide_eq_false h
    refine hQ.1 (List.all_eq_true.2 fun b hb => ?_)
    obtain ⟨j, hj, rfl⟩ := List.getElem_of_mem hb
    have := hall j (by omega)
    simpa [List.getD, hj] using this
theorem indexFunc_ok (hP : C.P = Tryz.prog) : SpecOK C 265 S_indexFunc := by
  rintro args objs U Os vc h hvc
  unfold S_indexFunc at h
  split at h <;> simp only [Option.some.injEq, Prod.mk.injEq, reduceCtorEq] at h
  rename_i s
  obtain ⟨rfl, rfl, rfl⟩ := h
  refine SpecOK.wpL (prg hP) [] [(2, L_indexFunc s)] 0 .nil (hP ▸ Tryz.func265) rfl rfl rfl [(loopC Tryz.f265 2, L_indexFunc s)] (by kernel_rfl) ⟨indexFunc_loop hP s, trivial⟩ ?_
  rw [nf_indexFunc]
  refine ⟨rfl, condP_intro (fun h => ⟨?_, rfl⟩) (fun h => ⟨?_, rfl⟩)⟩
  · simp only [firstBad, h]
  · simp only [firstBad, h]
theorem IndexFunc_ok (hP : C.P = Tryz.prog) : SpecOK C 252 S_IndexFunc := by
  rintro args objs U Os vc h hvc
  unfold S_IndexFunc at h
  split at h <;> simp only [Option.some.injEq, Prod.mk.injEq, reduceCtorEq] at h
  rename_i s
  obtain ⟨rfl, rfl, rfl⟩ := h
  refine SpecOK.wp0 (prg hP) [(265, .det S_indexFunc)] 0 (.cons (indexFunc_ok hP) .nil) (hP ▸ Tryz.func252) rfl rfl rfl ?_
  rw [nf_IndexFunc]
  exact ⟨trivial, rfl, rfl⟩
theorem ContainsFunc_ok (hP : C.P = Tryz.prog) : SpecOK C 229 S_ContainsFunc := by
  rintro args objs U Os vc h hvc
  unfold S_ContainsFunc at h
  split at h <;> simp only [Option.some.injEq, Prod.mk.injEq, reduceCtorEq] at h
  rename_i s
  obtain ⟨rfl, rfl, rfl⟩ := h
  refine SpecOK.wp0 (prg hP) [(252, .det S_IndexFunc)] 0 (.cons (IndexFunc_ok hP) .nil) (hP ▸ Tryz.func229) rfl rfl rfl ?_
  rw [nf_ContainsFunc, firstBad_neg]
  exact ⟨trivial, rfl, rfl⟩
theorem name_ok (hP : C.P = Tryz.prog) : SpecOK C 199 S_name := by
  rintro args objs U Os vc h hvc
  unfold S_name at h
  split at h <;> simp only [Option.some.injEq, Prod.mk.injEq, reduceCtorEq] at h
  rename_i s
  obtain ⟨rfl, rfl, rfl⟩ := h
  refine SpecOK.wp0 (prg hP) [(228, .det S_trim), (229, .det S_ContainsFunc)] 0 (.cons (trim_ok hP) (.cons (ContainsFunc_ok hP) .nil)) (hP ▸ Tryz.func199) rfl rfl rfl ?_
  rw [nf_name]
  cases s with
  | nil => exact ⟨rfl, rfl⟩
  | cons b r =>
    have e : (b :: r).take (Int.toNat 1) = [b] := rfl
    have hasc : ∀ x ∈ nameFirst, UInt8.toNat x < 128 := by decide +kernel
    rw [e, trimF_first]
    have hl : (List.length (b :: r) : Int) = r.length + 1 := by simp
    have hl' : List.length (b :: r) = r.length + 1 := rfl
    have hd : (b :: r).getD 0 0 = b := rfl
    refine condP_intro (fun _ => condP_intro (fun h => ⟨by omega, ⟨by simp, by omega, by omega, hasc⟩, condP_intro (fun h' => ⟨trivial, ?_, rfl⟩) (fun h' => ⟨?_, rfl⟩)⟩) (fun h => ⟨?_, rfl⟩)) (fun h => by simp at h)
    · have h := of_decide_eq_true h
      simp only [nameF, hd, h', hl', Bool.not_not]
      rw [decide_eq_true (by omega), decide_eq_true (by omega)]
      rfl
    · simp only [nameF, hd, h', Bool.and_false, Bool.false_and]
    · have h := of_decide_eq_false h
      simp only [nameF, hl']
      rw [decide_eq_false (p := r.length + 1 ≤ 24) (by omega)]
      simp
end Go.Eng
namespace Go.Eng
open Go.Proofs
set_option maxRecDepth 20000
theorem nf_digits (s : List UInt8) (a b : Int) (R : AV → List (Nat × AObj) → Prop) : wpFn te [(228, .det S_trim)] [] 0 Tryz.f201 [.str s, .int .i64 a, .int .i64 b] [] R = (letI z0 := (List.length s ≤ 9223372036854775807 ∧ 2 ≤ 10 ∧ 10 < 4294967281 ∧ ∀ (b : UInt8), b ∈ [(48 : UInt8), 49, 50, 51, 52, 53, 54, 55, 56, 57] → UInt8.toNat b < 128); letI z1 := (z0 ∧ R (.bool (decide (trimF ([(48 : UInt8), 49, 50, 51, 52, 53, 54, 55, 56, 57]) s = []))) []); condP (decide ((↑(List.length s) : Int) = a)) z1 (condP (decide ((↑(List.length s) : Int) = b)) z1 (R (.bool false) []))) := by kernel_rfl
theorem nf_checkDigit (s : List UInt8) (R : AV → List (Nat × AObj) → Prop) : wpFn te [(201, .det S_digits)] [(5, L_checkDigit s)] 0 Tryz.f202 [.str s] [] R = (((7 : Int) ≤ (100 : Int) ∧ (12 : Int) ≤ (100 : Int)) ∧ condP (!digitsF s (7 : Int) (12 : Int)) (R (.tuple [.int .i64 0, .bool false]) []) (some (St.mk [(0, .str s), (4, .int .i64 0), (11, .int .i64 (↑(List.length s) : Int)), (12, .int .i64 0)] [] 0 []) = some (St.mk [(0, .str s), (4, .int .i64 (cdSum s 0)), (11, .int .i64 (↑(List.length s) : Int)), (12, .int .i64 (↑0 : Int))] [] 0 []) ∧ List.length s ≤ 12 ∧ List.all s isDig = true ∧ (10 : Int) ≠ (0 : Int) ∧ inR .i64 ((10 : Int) - Int.tmod (cdSum s (List.length s)) (10 : Int)) ∧ (10 : Int) ≠ (0 : Int) ∧ R (.tuple [.int .i64 (Int.tmod ((10 : Int) - Int.tmod (cdSum s (List.length s)) (10 : Int)) (10 : Int)), .bool true]) [])) := by kernel_rfl
theorem nf_checkDigit_loop (s : List UInt8) (k : Nat) (P : Nat → Prop) (R : Exit → St → Prop) : roundP ⟨te, [], [], 0, 36, 0⟩ (loopB Tryz.f202 5) [0, 4, 11, 12] [4] [] (S_cd s) P R (S_cd s k) = (letI z1 := (↑(List.length s) : Int); letI z0 := (↑(UInt8.toNat (List.getD s (Int.toNat (↑k : Int)) (0 : UInt8))) : Int); letI z2 := (cdSum s k + ((1 : Int) + (2 : Int) * Int.tmod (z1 - (↑k : Int)) (2 : Int)) * ((z0 - (48 : Int)) % (256 : Int))); condP (decide ((↑k : Int) < z1)) (inR .i64 (z1 - (↑k : Int)) ∧ (2 : Int) ≠ (0 : Int) ∧ inR .i64 ((2 : Int) * Int.tmod (z1 - (↑k : Int)) (2 : Int)) ∧ inR .i64 ((1 : Int) + (2 : Int) * Int.tmod (z1 - (↑k : Int)) (2 : Int)) ∧ ((0 : Int) ≤ (↑k : Int) ∧ (↑k : Int) < z1) ∧ inR .i64 ((z0 - (48 : Int)) % (256 : Int)) ∧ inR .i64 (((1 : Int) + (2 : Int) * Int.tmod (z1 - (↑k : Int)) (2 : Int)) * ((z0 - (48 : Int)) % (256 : Int))) ∧ inR .i64 z2 ∧ inR .i64 ((↑k : Int) + (1 : Int)) ∧ ∃ (i' : Nat), some (St.mk [(0, .str s), (4, .int .i64 z2), (11, .int .i64 z1), (12, .int .i64 ((↑k : Int) + (1 : Int)))] [] 0 []) = some (St.mk [(0, .str s), (4, .int .i64 (cdSum s i')), (11, .int .i64 z1), (12, .int .i64 (↑i' : Int))] [] 0 []) ∧ P i') (R (.exit 0) (St.mk [(4, .int .i64 (cdSum s k))] [] 0 []))) := by kernel_rfl
theorem nf_validID (s : List UInt8) (R : AV → List (Nat × AObj) → Prop) : wpFn te [(201, .det S_digits), (202, .det S_checkDigit)] [] 0 Tryz.f160 [.str s] [] R = (letI z0 := (↑(List.length s) : Int); letI z1 := (↑(UInt8.toNat (List.getD s (Int.toNat (z0 - (1 : Int))) (0 : UInt8))) : Int); ((8 : Int) ≤ (100 : Int) ∧ (13 : Int) ≤ (100 : Int)) ∧ condP (!digitsF s (8 : Int) (13 : Int)) (R (.bool false) []) (inR .i64 (z0 - (1 : Int)) ∧ ((0 : Int) ≤ z0 - (1 : Int) ∧ z0 - (1 : Int) ≤ z0) ∧ True ∧ ((0 : Int) ≤ z0 - (1 : Int) ∧ z0 - (1 : Int) < z0) ∧ inR .i64 ((z1 - (48 : Int)) % (256 : Int)) ∧ R (.bool (decide (Prod.fst (cdF (List.take (Int.toNat (z0 - (1 : Int))) s)) = (z1 - (48 : Int)) % (256 : Int)))) [])) := by kernel_rfl
variable {C : Ctx} [C.Loose]
theorem digits_ok (hP : C.P = Tryz.prog) (htrim : SpecOK C 228 S_trim) : SpecOK C 201 S_digits := by
  have _ : C.Loose := inferInstance
  rintro args objs U Os vc h hvc
  unfold S_digits at h
  split at h <;> simp only [Option.some.injEq, Prod.mk.injEq, reduceCtorEq] at h
  rename_i s a b
  obtain ⟨rfl, rfl, rfl⟩ := h
  refine SpecOK.wp0 (prg hP) [(228, .det S_trim)] 0 (.cons htrim .nil) (hP ▸ Tryz.func201) rfl rfl rfl ?_
  rw [nf_digits]
  have hm : (9223372036854775807 : Nat) = maxLen := rfl
  have hlt : ∀ b ∈ ([48, 49, 50, 51, 52, 53, 54, 55, 56, 57] : List UInt8), UInt8.toNat b < 128 := by decide
  refine condP_intro (fun h => ?_) (fun h => condP_intro (fun h' => ?_) (fun h' => ?_))
  · have h2 := of_decide_eq_true h
    refine ⟨⟨by omega, by omega, by omega, hlt⟩, ?_, rfl⟩
    simp only [digitsF, h, Bool.true_or, Bool.true_and, trimF_digits]
  · have h2 := of_decide_eq_true h'
    refine ⟨⟨by omega, by omega, by omega, hlt⟩, ?_, rfl⟩
    simp only [digitsF, h', Bool.or_true, Bool.true_and, trimF_digits]
  · simp [digitsF, h, h']
theorem cdSum_bound {s : List UInt8} (h : s.all isDig = true) : ∀ k, k ≤ s.length → 0 ≤ cdSum s k ∧ cdSum s k ≤ 27 * k
  | 0, _ => by simp [cdSum]
  | k + 1, hk => by
    have ih := cdSum_bound h k (by omega)
    have hd := isDig_at h k (by omega)
    simp only [cdSum]
    rcases Int.emod_two_eq (↑s.length - ↑k) with e | e <;> rw [e] <;> omega
theorem cd_loop_ok (hP : C.P = Tryz.prog) (s : List UInt8) : LoopOK C 0 36 (loopC Tryz.f202 5) (L_checkDigit s) := by
  have _ : C.Loose := inferInstance
  rintro st Q ⟨h0, hlen, hall, hQ⟩
  refine LoopOK.mk (prg hP) [] 0 .nil [0, 4, 11, 12] [4] [] (S_cd s) (fun k => k ≤ s.length) (fun k => s.length - k) 0 (Nat.zero_le _) h0 fun k hk => ?_
  rw [nf_checkDigit_loop]
  have hb := cdSum_bound hall k hk
  refine condP_intro (fun h => ?_) (fun h => ?_)
  · have h := of_decide_eq_true h
    have hd := isDig_at hall k (by omega)
    have e : Int.tmod (↑s.length - ↑k) 2 = (↑s.length - ↑k) % 2 := Int.tmod_eq_emod_of_nonneg (by omega)
    have e3 : ((s.getD k 0).toNat - 48 : Int) % 256 = (s.getD k 0).toNat - 48 := by omega
    simp only [inR, e, Int.toNat_natCast, e3]
    have hs : cdSum s (k + 1) = cdSum s k + (1 + 2 * ((↑s.length - ↑k) % 2)) * (↑(s.getD k 0).toNat - 48) := rfl
    rcases Int.emod_two_eq (↑s.length - ↑k) with e | e <;> rw [e] at hs ⊢ <;> and_intros <;> first
      | omega
      | exact ⟨k + 1, by rw [hs]; rfl, by omega, by omega⟩
  · have h := of_decide_eq_false h
    have hk : k = s.length := by omega
    rw [hk]; exact hQ
theorem checkDigit_ok (hP : C.P = Tryz.prog) (htrim : SpecOK C 228 S_trim) : SpecOK C 202 S_checkDigit := by
  rintro args objs U Os vc h hvc
  unfold S_checkDigit at h
  split at h <;> simp only [Option.some.injEq, Prod.mk.injEq, reduceCtorEq] at h
  rename_i s
  obtain ⟨rfl, rfl, rfl⟩ := h
  refine SpecOK.wpL (prg hP) [(201, .det S_digits)] [(5, L_checkDigit s)] 0 (.cons (digits_ok hP htrim) .nil) (hP ▸ Tryz.func202) rfl rfl rfl [(loopC Tryz.f202 5, L_checkDigit s)] (by kernel_rfl) ⟨cd_loop_ok hP s, trivial⟩ ?_
  rw [nf_checkDigit]
  refine ⟨by omega, condP_intro (fun h => ?_) (fun h => ?_)⟩
  · have h : digitsF s 7 12 = false := by simpa using h
    simp [cdF, h]
  · have h : digitsF s 7 12 = true := by simpa using h
    have h' := h
    simp only [digitsF, Bool.and_eq_true, Bool.or_eq_true, decide_eq_true_eq] at h'
    have hb := cdSum_bound h'.2 s.length (Nat.le_refl _)
    have e : Int.tmod (cdSum s s.length) 10 = cdSum s s.length % 10 := Int.tmod_eq_emod_of_nonneg (by omega)
    rw [e, Int.tmod_eq_emod_of_nonneg (by omega)]
    refine ⟨rfl, by omega, h'.2, by omega, by simp only [inR]; omega, by omega, ?_, rfl⟩
    simp [cdF, h]
theorem validID_ok (hP : C.P = Tryz.prog) (htrim : SpecOK C 228 S_trim) : SpecOK C 160 S_validID := by
  rintro args objs U Os vc h hvc
  unfold S_validID at h
  split at h <;> simp only [Option.some.injEq, Prod.mk.injEq, reduceCtorEq] at h
  rename_i s
  obtain ⟨rfl, rfl, rfl⟩ := h
  refine SpecOK.wp0 (prg hP) [(201, .det S_digits), (202, .det S_checkDigit)] 0 (.cons (digits_ok hP htrim) (.cons (checkDigit_ok hP htrim) .nil)) (hP ▸ Tryz.func160) rfl rfl rfl ?_
  rw [nf_validID]
  refine ⟨by omega, condP_intro (fun h => ?_) (fun h => ?_)⟩
  · have h : digitsF s 8 13 = false := by simpa using h
    simp [validIDF, h]
  · have h : digitsF s 8 13 = true := by simpa using h
    have h' := h
    simp only [digitsF, Bool.and_eq_true, Bool.or_eq_true, decide_eq_true_eq] at h'
    have e : (↑s.length - 1 : Int).toNat = s.length - 1 := by omega
    have hd := isDig_at h'.2 (s.length - 1) (by omega)
    rw [e]
    have e2 : ((s.getD (s.length - 1) 0).toNat - 48 : Int) % 256 = (s.getD (s.length - 1) 0).toNat - 48 := by omega
    simp only [inR, e2]
    refine ⟨by omega, by omega, trivial, by omega, by omega, ?_, trivial⟩
    simp [validIDF, h]
end Go.Eng
