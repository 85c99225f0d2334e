/- The tied card of CollectionUnion: its statement is 'CollectionUnionCardSaid' of the given cards. -/
import Derived.Test.YtokpcnppihgdlaaGreatDoorNp
import Derived.Test.YtokpcnppihgdlaaGreatDoorNu
import Derived.Test.YtokpcnppihgdlaaGreatDoorNr
import Derived.Test.YtokpcnppihgdlaaGreatDoorNt
import Derived.Test.YtokpcnppihgdlaaGreatDoorNq
import Derived.Test.YtokpcnppihgdlaaGreatDoorNza
import Derived.Test.YtokpcnppihgdlaaGreatDoorNo
import Derived.Test.YtokpcnppihgdlaaGreatDoorCards
import Derived.Test.YtokpcnppihgdlaaGreatDoorTie
import Derived.SevenTiedAt
/- Combine: what it answers. -/
namespace Go.Eng
open Go.Proofs Go.RowKit
variable {C : Ctx} [C.Loose]
set_option maxRecDepth 20000
end Go.Eng
/- The reference's Combine: what it answers. -/
namespace Go.Eng
open Go.Proofs Go.RowKit
variable {C : Ctx} [C.Loose]
set_option maxRecDepth 20000
end Go.Eng
/- The reference of messages: its small functions. -/
namespace Go.Eng
open Go.Proofs Go.RowKit
variable {C : Ctx} [C.Loose]
set_option maxRecDepth 20000
theorem nf_sm (g h : Nat → MG) (n m : Nat) (R : AV → List (Nat × AObj) → Prop) : wpFn te [] [(4, L_sm g h n)] 0 Tryz.f37 [.view 15 n (mgRow g), .view 15 m (mgRow h)] [] R = (condP (!decide ((↑n : Int) = (↑m : Int))) (R (.bool false) []) (some (St.mk [(0, .view 15 n (mgRow g)), (1, .view 15 m (mgRow h)), (12, .int .i64 (↑n : Int)), (13, .int .i64 0)] [] 0 []) = some (St.mk [(0, .view 15 n (mgRow g)), (1, .view 15 n (mgRow h)), (12, .int .i64 (↑n : Int)), (13, .int .i64 (↑0 : Int))] [] 0 []) ∧ n ≤ 1000000 ∧ condP (eqMs g h n) (R (.bool true) []) (R (.bool false) []))) := by kernel_rfl
theorem nf_sm_round (g h : Nat → MG) (n k : Nat) (P : Nat → Prop) (R : Exit → St → Prop) : roundP ⟨te, [], [], 0, 26, 0⟩ (loopB Tryz.f37 4) [0, 1, 12, 13] [] [4] (S_sm g h n) P R (S_sm g h n k) = (condP (decide ((↑k : Int) < (↑n : Int))) (((0 : Int) ≤ (↑k : Int) ∧ (↑k : Int) < (↑n : Int) ∧ 15 = 15) ∧ ((0 : Int) ≤ (↑k : Int) ∧ (↑k : Int) < (↑n : Int) ∧ 15 = 15) ∧ condP (!(decide (MG.dev (g (Int.toNat (↑k : Int))) = MG.dev (h (Int.toNat (↑k : Int)))) && (decide (MG.seq (g (Int.toNat (↑k : Int))) = MG.seq (h (Int.toNat (↑k : Int)))) && (decide (MG.kind (g (Int.toNat (↑k : Int))) = MG.kind (h (Int.toNat (↑k : Int)))) && (decide (VT.o (MG.v (g (Int.toNat (↑k : Int)))) = VT.o (MG.v (h (Int.toNat (↑k : Int))))) && (decide (VT.p (MG.v (g (Int.toNat (↑k : Int)))) = VT.p (MG.v (h (Int.toNat (↑k : Int))))) && (decide (VT.per (MG.v (g (Int.toNat (↑k : Int)))) = VT.per (MG.v (h (Int.toNat (↑k : Int))))) && (decide (VT.day (MG.v (g (Int.toNat (↑k : Int)))) = VT.day (MG.v (h (Int.toNat (↑k : Int))))) && (decide (VT.st (MG.v (g (Int.toNat (↑k : Int)))) = VT.st (MG.v (h (Int.toNat (↑k : Int))))) && (decide (VT.pr (MG.v (g (Int.toNat (↑k : Int)))) = VT.pr (MG.v (h (Int.toNat (↑k : Int))))) && decide (VT.rep (MG.v (g (Int.toNat (↑k : Int)))) = VT.rep (MG.v (h (Int.toNat (↑k : Int)))))))))) && (decide (DT.o (MG.d (g (Int.toNat (↑k : Int)))) = DT.o (MG.d (h (Int.toNat (↑k : Int))))) && (decide (DT.p (MG.d (g (Int.toNat (↑k : Int)))) = DT.p (MG.d (h (Int.toNat (↑k : Int))))) && (decide (DT.per (MG.d (g (Int.toNat (↑k : Int)))) = DT.per (MG.d (h (Int.toNat (↑k : Int))))) && (decide (DT.dev (MG.d (g (Int.toNat (↑k : Int)))) = DT.dev (MG.d (h (Int.toNat (↑k : Int))))) && decide (DT.num (MG.d (g (Int.toNat (↑k : Int)))) = DT.num (MG.d (h (Int.toNat (↑k : Int)))))))))))))) (R .ret (St.mk [(4, .bool false)] [] 0 [])) (inR .i64 ((↑k : Int) + (1 : Int)) ∧ ∃ (i' : Nat), some (St.mk [(0, .view 15 n (mgRow g)), (1, .view 15 n (mgRow h)), (12, .int .i64 (↑n : Int)), (13, .int .i64 ((↑k : Int) + (1 : Int)))] [] 0 []) = some (St.mk [(0, .view 15 n (mgRow g)), (1, .view 15 n (mgRow h)), (12, .int .i64 (↑n : Int)), (13, .int .i64 (↑i' : Int))] [] 0 []) ∧ P i')) (R (.exit 0) (St.mk [] [] 0 []))) := by kernel_rfl

theorem eqMs_stop {g h : Nat → MG} {k : Nat} (e : eqMs g h (k + 1) = false) : ∀ n, k < n → eqMs g h n = false
  | 0, hn => by omega
  | n + 1, hn => by
    by_cases q : k = n
    · subst q; exact e
    · rw [eqMs, eqMs_stop e n (by omega), Bool.false_and]
theorem sm_loop (hP : C.P = Tryz.prog) (g h : Nat → MG) (n : Nat) : LoopOK C 0 26 (loopC Tryz.f37 4) (L_sm g h n) := by
  have _ : C.Loose := inferInstance
  rintro st Q ⟨h0, hn, hQ⟩
  have hR := condP_elim hQ
  refine LoopOK.mk (prg hP) [] 0 .nil [0, 1, 12, 13] [] [4] (S_sm g h n) (fun k => k ≤ n ∧ eqMs g h k = true) (fun k => n - k) 0 ⟨Nat.zero_le _, rfl⟩ h0 (fun k hk => ?_)
  obtain ⟨hkn, hok⟩ := hk
  rw [nf_sm_round, Int.toNat_natCast]
  refine condP_dec (fun h1 => ?_) (fun h1 => ?_)
  · refine ⟨⟨by omega, by omega, rfl⟩, ⟨by omega, by omega, rfl⟩, condP_not (fun h2 => hR.2 (eqMs_stop (k := k) (by rw [eqMs, show eqM (g k) (h k) = false from h2, Bool.and_false]) n (by omega))) (fun h2 => ⟨by simp only [inR]; omega, k + 1, rfl, ⟨by omega, ?_⟩, by omega⟩)⟩
    rw [eqMs, hok]; exact h2
  · have : k = n := by omega
    subst this
    exact hR.1 hok
theorem sameM_ok (hP : C.P = Tryz.prog) : SpecOK C 37 S_sameM := by
  rintro args objs U Os vc h hvc
  unfold S_sameM at h
  split at h <;> simp only [Option.some.injEq, Prod.mk.injEq, reduceCtorEq] at h
  rename_i n f m h'
  obtain ⟨rfl, rfl, rfl⟩ := h
  obtain ⟨hn, hf, hh⟩ := hvc
  generalize mgOf f = g at *
  generalize mgOf h' = g' at *
  subst hf; subst hh
  refine SpecOK.wpL (prg hP) [] [(4, L_sm g g' n)] 0 .nil (hP ▸ Tryz.func37) rfl rfl rfl [(loopC Tryz.f37 4, L_sm g g' n)] (by kernel_rfl) ⟨sm_loop hP g g' n, trivial⟩ ?_
  rw [nf_sm]
  refine condP_ndec (fun h1 => ?_) (fun h1 => ?_)
  · rw [decide_eq_false (show ¬ n = m by omega)]; exact ⟨rfl, rfl⟩
  · have : n = m := by omega
    subst this
    rw [decide_eq_true rfl]
    exact ⟨rfl, hn, condP_intro (fun h2 => by rw [h2]; exact ⟨rfl, rfl⟩) (fun h2 => by rw [h2]; exact ⟨rfl, rfl⟩)⟩
end Go.Eng
/- The law of unions. -/
namespace Go.Eng
open Go.Proofs Go.RowKit
variable {C : Ctx} [C.Loose]
set_option maxRecDepth 20000
theorem nf_lun (n : Nat) (v : Nat → Int) (R : AV → List (Nat × AObj) → Prop) : wpFn te [(36, .rel R_list), (40, .rel R_turned), (38, .det S_mrgV), (37, .det S_sameM), (35, .det S_awake11)] [] 0 Tryz.f9 [.view 1 n (intRow v)] [] R = (28 = 28 ∧ 1 = 1 ∧ intRow v = intRow (vInt (intRow v)) ∧ ((0 : Int) ≤ (0 : Int) ∧ (0 : Int) ≤ (4611686018427360000 : Int)) ∧ ∀ (c : Nat) (g : Nat → MG) (a' : Int), c ≤ 12 → (0 : Int) ≤ a' ∧ a' ≤ (0 : Int) + (1100 : Int) → (∀ (j : Nat), j < c → MG.Sm (g j)) → 28 = 28 ∧ 1 = 1 ∧ intRow v = intRow (vInt (intRow v)) ∧ ((0 : Int) ≤ a' ∧ a' ≤ (4611686018427360000 : Int)) ∧ ∀ (c_1 : Nat) (g_1 : Nat → MG) (a'_1 : Int), c_1 ≤ 12 → a' ≤ a'_1 ∧ a'_1 ≤ a' + (1100 : Int) → (∀ (j : Nat), j < c_1 → MG.Sm (g_1 j)) → 28 = 28 ∧ 1 = 1 ∧ intRow v = intRow (vInt (intRow v)) ∧ ((0 : Int) ≤ a'_1 ∧ a'_1 ≤ (4611686018427360000 : Int)) ∧ ∀ (c_2 : Nat) (g_2 : Nat → MG) (a' : Int), c_2 ≤ 12 → a'_1 ≤ a' ∧ a' ≤ a'_1 + (1100 : Int) → (∀ (j : Nat), j < c_2 → MG.Sm (g_2 j)) → (c ≤ 100000 ∧ c_1 ≤ 100000 ∧ mgRow g = mgRow (mgOf (mgRow g)) ∧ mgRow g_1 = mgRow (mgOf (mgRow g_1)) ∧ (∀ (i : Nat), i < c → MG.Sm (mgOf (mgRow g) i)) ∧ ∀ (i : Nat), i < c_1 → MG.Sm (mgOf (mgRow g_1) i)) ∧ (c_1 ≤ 100000 ∧ c ≤ 100000 ∧ mgRow g_1 = mgRow (mgOf (mgRow g_1)) ∧ mgRow g = mgRow (mgOf (mgRow g)) ∧ (∀ (i : Nat), i < c_1 → MG.Sm (mgOf (mgRow g_1) i)) ∧ ∀ (i : Nat), i < c → MG.Sm (mgOf (mgRow g) i)) ∧ (List.length (mrgL (mgOf (mgRow g)) c (mgOf (mgRow g_1)) c_1) ≤ 1000000 ∧ mgRow (atM (mrgL (mgOf (mgRow g)) c (mgOf (mgRow g_1)) c_1)) = mgRow (mgOf (mgRow (atM (mrgL (mgOf (mgRow g)) c (mgOf (mgRow g_1)) c_1)))) ∧ mgRow (atM (mrgL (mgOf (mgRow g_1)) c_1 (mgOf (mgRow g)) c)) = mgRow (mgOf (mgRow (atM (mrgL (mgOf (mgRow g_1)) c_1 (mgOf (mgRow g)) c))))) ∧ condP (decide (List.length (mrgL (mgOf (mgRow g)) c (mgOf (mgRow g_1)) c_1) = List.length (mrgL (mgOf (mgRow g_1)) c_1 (mgOf (mgRow g)) c)) && eqMs (mgOf (mgRow (atM (mrgL (mgOf (mgRow g)) c (mgOf (mgRow g_1)) c_1)))) (mgOf (mgRow (atM (mrgL (mgOf (mgRow g_1)) c_1 (mgOf (mgRow g)) c)))) (List.length (mrgL (mgOf (mgRow g)) c (mgOf (mgRow g_1)) c_1))) ((List.length (mrgL (mgOf (mgRow g)) c (mgOf (mgRow g_1)) c_1) ≤ 100000 ∧ c_2 ≤ 100000 ∧ mgRow (atM (mrgL (mgOf (mgRow g)) c (mgOf (mgRow g_1)) c_1)) = mgRow (mgOf (mgRow (atM (mrgL (mgOf (mgRow g)) c (mgOf (mgRow g_1)) c_1)))) ∧ mgRow g_2 = mgRow (mgOf (mgRow g_2)) ∧ (∀ (i : Nat), i < List.length (mrgL (mgOf (mgRow g)) c (mgOf (mgRow g_1)) c_1) → MG.Sm (mgOf (mgRow (atM (mrgL (mgOf (mgRow g)) c (mgOf (mgRow g_1)) c_1))) i)) ∧ ∀ (i : Nat), i < c_2 → MG.Sm (mgOf (mgRow g_2) i)) ∧ (c_1 ≤ 100000 ∧ c_2 ≤ 100000 ∧ mgRow g_1 = mgRow (mgOf (mgRow g_1)) ∧ mgRow g_2 = mgRow (mgOf (mgRow g_2)) ∧ (∀ (i : Nat), i < c_1 → MG.Sm (mgOf (mgRow g_1) i)) ∧ ∀ (i : Nat), i < c_2 → MG.Sm (mgOf (mgRow g_2) i)) ∧ (c ≤ 100000 ∧ List.length (mrgL (mgOf (mgRow g_1)) c_1 (mgOf (mgRow g_2)) c_2) ≤ 100000 ∧ mgRow g = mgRow (mgOf (mgRow g)) ∧ mgRow (atM (mrgL (mgOf (mgRow g_1)) c_1 (mgOf (mgRow g_2)) c_2)) = mgRow (mgOf (mgRow (atM (mrgL (mgOf (mgRow g_1)) c_1 (mgOf (mgRow g_2)) c_2)))) ∧ (∀ (i : Nat), i < c → MG.Sm (mgOf (mgRow g) i)) ∧ ∀ (i : Nat), i < List.length (mrgL (mgOf (mgRow g_1)) c_1 (mgOf (mgRow g_2)) c_2) → MG.Sm (mgOf (mgRow (atM (mrgL (mgOf (mgRow g_1)) c_1 (mgOf (mgRow g_2)) c_2))) i)) ∧ (List.length (mrgL (mgOf (mgRow (atM (mrgL (mgOf (mgRow g)) c (mgOf (mgRow g_1)) c_1)))) (List.length (mrgL (mgOf (mgRow g)) c (mgOf (mgRow g_1)) c_1)) (mgOf (mgRow g_2)) c_2) ≤ 1000000 ∧ mgRow (atM (mrgL (mgOf (mgRow (atM (mrgL (mgOf (mgRow g)) c (mgOf (mgRow g_1)) c_1)))) (List.length (mrgL (mgOf (mgRow g)) c (mgOf (mgRow g_1)) c_1)) (mgOf (mgRow g_2)) c_2)) = mgRow (mgOf (mgRow (atM (mrgL (mgOf (mgRow (atM (mrgL (mgOf (mgRow g)) c (mgOf (mgRow g_1)) c_1)))) (List.length (mrgL (mgOf (mgRow g)) c (mgOf (mgRow g_1)) c_1)) (mgOf (mgRow g_2)) c_2)))) ∧ mgRow (atM (mrgL (mgOf (mgRow g)) c (mgOf (mgRow (atM (mrgL (mgOf (mgRow g_1)) c_1 (mgOf (mgRow g_2)) c_2)))) (List.length (mrgL (mgOf (mgRow g_1)) c_1 (mgOf (mgRow g_2)) c_2)))) = mgRow (mgOf (mgRow (atM (mrgL (mgOf (mgRow g)) c (mgOf (mgRow (atM (mrgL (mgOf (mgRow g_1)) c_1 (mgOf (mgRow g_2)) c_2)))) (List.length (mrgL (mgOf (mgRow g_1)) c_1 (mgOf (mgRow g_2)) c_2))))))) ∧ condP (decide (List.length (mrgL (mgOf (mgRow (atM (mrgL (mgOf (mgRow g)) c (mgOf (mgRow g_1)) c_1)))) (List.length (mrgL (mgOf (mgRow g)) c (mgOf (mgRow g_1)) c_1)) (mgOf (mgRow g_2)) c_2) = List.length (mrgL (mgOf (mgRow g)) c (mgOf (mgRow (atM (mrgL (mgOf (mgRow g_1)) c_1 (mgOf (mgRow g_2)) c_2)))) (List.length (mrgL (mgOf (mgRow g_1)) c_1 (mgOf (mgRow g_2)) c_2)))) && eqMs (mgOf (mgRow (atM (mrgL (mgOf (mgRow (atM (mrgL (mgOf (mgRow g)) c (mgOf (mgRow g_1)) c_1)))) (List.length (mrgL (mgOf (mgRow g)) c (mgOf (mgRow g_1)) c_1)) (mgOf (mgRow g_2)) c_2)))) (mgOf (mgRow (atM (mrgL (mgOf (mgRow g)) c (mgOf (mgRow (atM (mrgL (mgOf (mgRow g_1)) c_1 (mgOf (mgRow g_2)) c_2)))) (List.length (mrgL (mgOf (mgRow g_1)) c_1 (mgOf (mgRow g_2)) c_2)))))) (List.length (mrgL (mgOf (mgRow (atM (mrgL (mgOf (mgRow g)) c (mgOf (mgRow g_1)) c_1)))) (List.length (mrgL (mgOf (mgRow g)) c (mgOf (mgRow g_1)) c_1)) (mgOf (mgRow g_2)) c_2))) ((List.length (mrgL (mgOf (mgRow g)) c (mgOf (mgRow g_1)) c_1) ≤ 100000 ∧ List.length (mrgL (mgOf (mgRow g)) c (mgOf (mgRow g_1)) c_1) ≤ 100000 ∧ mgRow (atM (mrgL (mgOf (mgRow g)) c (mgOf (mgRow g_1)) c_1)) = mgRow (mgOf (mgRow (atM (mrgL (mgOf (mgRow g)) c (mgOf (mgRow g_1)) c_1)))) ∧ mgRow (atM (mrgL (mgOf (mgRow g)) c (mgOf (mgRow g_1)) c_1)) = mgRow (mgOf (mgRow (atM (mrgL (mgOf (mgRow g)) c (mgOf (mgRow g_1)) c_1)))) ∧ (∀ (i : Nat), i < List.length (mrgL (mgOf (mgRow g)) c (mgOf (mgRow g_1)) c_1) → MG.Sm (mgOf (mgRow (atM (mrgL (mgOf (mgRow g)) c (mgOf (mgRow g_1)) c_1))) i)) ∧ ∀ (i : Nat), i < List.length (mrgL (mgOf (mgRow g)) c (mgOf (mgRow g_1)) c_1) → MG.Sm (mgOf (mgRow (atM (mrgL (mgOf (mgRow g)) c (mgOf (mgRow g_1)) c_1))) i)) ∧ (List.length (mrgL (mgOf (mgRow (atM (mrgL (mgOf (mgRow g)) c (mgOf (mgRow g_1)) c_1)))) (List.length (mrgL (mgOf (mgRow g)) c (mgOf (mgRow g_1)) c_1)) (mgOf (mgRow (atM (mrgL (mgOf (mgRow g)) c (mgOf (mgRow g_1)) c_1)))) (List.length (mrgL (mgOf (mgRow g)) c (mgOf (mgRow g_1)) c_1))) ≤ 1000000 ∧ mgRow (atM (mrgL (mgOf (mgRow (atM (mrgL (mgOf (mgRow g)) c (mgOf (mgRow g_1)) c_1)))) (List.length (mrgL (mgOf (mgRow g)) c (mgOf (mgRow g_1)) c_1)) (mgOf (mgRow (atM (mrgL (mgOf (mgRow g)) c (mgOf (mgRow g_1)) c_1)))) (List.length (mrgL (mgOf (mgRow g)) c (mgOf (mgRow g_1)) c_1)))) = mgRow (mgOf (mgRow (atM (mrgL (mgOf (mgRow (atM (mrgL (mgOf (mgRow g)) c (mgOf (mgRow g_1)) c_1)))) (List.length (mrgL (mgOf (mgRow g)) c (mgOf (mgRow g_1)) c_1)) (mgOf (mgRow (atM (mrgL (mgOf (mgRow g)) c (mgOf (mgRow g_1)) c_1)))) (List.length (mrgL (mgOf (mgRow g)) c (mgOf (mgRow g_1)) c_1)))))) ∧ mgRow (atM (mrgL (mgOf (mgRow g)) c (mgOf (mgRow g_1)) c_1)) = mgRow (mgOf (mgRow (atM (mrgL (mgOf (mgRow g)) c (mgOf (mgRow g_1)) c_1))))) ∧ condP (decide (List.length (mrgL (mgOf (mgRow (atM (mrgL (mgOf (mgRow g)) c (mgOf (mgRow g_1)) c_1)))) (List.length (mrgL (mgOf (mgRow g)) c (mgOf (mgRow g_1)) c_1)) (mgOf (mgRow (atM (mrgL (mgOf (mgRow g)) c (mgOf (mgRow g_1)) c_1)))) (List.length (mrgL (mgOf (mgRow g)) c (mgOf (mgRow g_1)) c_1))) = List.length (mrgL (mgOf (mgRow g)) c (mgOf (mgRow g_1)) c_1)) && eqMs (mgOf (mgRow (atM (mrgL (mgOf (mgRow (atM (mrgL (mgOf (mgRow g)) c (mgOf (mgRow g_1)) c_1)))) (List.length (mrgL (mgOf (mgRow g)) c (mgOf (mgRow g_1)) c_1)) (mgOf (mgRow (atM (mrgL (mgOf (mgRow g)) c (mgOf (mgRow g_1)) c_1)))) (List.length (mrgL (mgOf (mgRow g)) c (mgOf (mgRow g_1)) c_1)))))) (mgOf (mgRow (atM (mrgL (mgOf (mgRow g)) c (mgOf (mgRow g_1)) c_1)))) (List.length (mrgL (mgOf (mgRow (atM (mrgL (mgOf (mgRow g)) c (mgOf (mgRow g_1)) c_1)))) (List.length (mrgL (mgOf (mgRow g)) c (mgOf (mgRow g_1)) c_1)) (mgOf (mgRow (atM (mrgL (mgOf (mgRow g)) c (mgOf (mgRow g_1)) c_1)))) (List.length (mrgL (mgOf (mgRow g)) c (mgOf (mgRow g_1)) c_1))))) (28 = 28 ∧ 1 = 1 ∧ intRow v = intRow (vInt (intRow v)) ∧ ((0 : Int) ≤ a' ∧ a' ≤ (4611686018427360000 : Int)) ∧ mgRow g = mgRow (mgOf (mgRow g)) ∧ c ≤ 100 ∧ ∀ (k : Nat) (h : Nat → MG) (a'_2 : Int), k ≤ 2 * c → a' ≤ a'_2 ∧ a'_2 ≤ a' + (200 : Int) → (∀ (x : MG), x ∈ lst h k ↔ x ∈ lst (mgOf (mgRow g)) c) → (k ≤ 100000 ∧ c_1 ≤ 100000 ∧ mgRow h = mgRow (mgOf (mgRow h)) ∧ mgRow g_1 = mgRow (mgOf (mgRow g_1)) ∧ (∀ (i : Nat), i < k → MG.Sm (mgOf (mgRow h) i)) ∧ ∀ (i : Nat), i < c_1 → MG.Sm (mgOf (mgRow g_1) i)) ∧ (List.length (mrgL (mgOf (mgRow h)) k (mgOf (mgRow g_1)) c_1) ≤ 1000000 ∧ mgRow (atM (mrgL (mgOf (mgRow h)) k (mgOf (mgRow g_1)) c_1)) = mgRow (mgOf (mgRow (atM (mrgL (mgOf (mgRow h)) k (mgOf (mgRow g_1)) c_1)))) ∧ mgRow (atM (mrgL (mgOf (mgRow g)) c (mgOf (mgRow g_1)) c_1)) = mgRow (mgOf (mgRow (atM (mrgL (mgOf (mgRow g)) c (mgOf (mgRow g_1)) c_1))))) ∧ condP (decide (List.length (mrgL (mgOf (mgRow h)) k (mgOf (mgRow g_1)) c_1) = List.length (mrgL (mgOf (mgRow g)) c (mgOf (mgRow g_1)) c_1)) && eqMs (mgOf (mgRow (atM (mrgL (mgOf (mgRow h)) k (mgOf (mgRow g_1)) c_1)))) (mgOf (mgRow (atM (mrgL (mgOf (mgRow g)) c (mgOf (mgRow g_1)) c_1)))) (List.length (mrgL (mgOf (mgRow h)) k (mgOf (mgRow g_1)) c_1))) ((List.length (mrgL (mgOf (mgRow g)) c (mgOf (mgRow g_1)) c_1) ≤ 100000 ∧ c ≤ 100000 ∧ mgRow (atM (mrgL (mgOf (mgRow g)) c (mgOf (mgRow g_1)) c_1)) = mgRow (mgOf (mgRow (atM (mrgL (mgOf (mgRow g)) c (mgOf (mgRow g_1)) c_1)))) ∧ mgRow g = mgRow (mgOf (mgRow g)) ∧ (∀ (i : Nat), i < List.length (mrgL (mgOf (mgRow g)) c (mgOf (mgRow g_1)) c_1) → MG.Sm (mgOf (mgRow (atM (mrgL (mgOf (mgRow g)) c (mgOf (mgRow g_1)) c_1))) i)) ∧ ∀ (i : Nat), i < c → MG.Sm (mgOf (mgRow g) i)) ∧ (List.length (mrgL (mgOf (mgRow (atM (mrgL (mgOf (mgRow g)) c (mgOf (mgRow g_1)) c_1)))) (List.length (mrgL (mgOf (mgRow g)) c (mgOf (mgRow g_1)) c_1)) (mgOf (mgRow g)) c) ≤ 1000000 ∧ mgRow (atM (mrgL (mgOf (mgRow (atM (mrgL (mgOf (mgRow g)) c (mgOf (mgRow g_1)) c_1)))) (List.length (mrgL (mgOf (mgRow g)) c (mgOf (mgRow g_1)) c_1)) (mgOf (mgRow g)) c)) = mgRow (mgOf (mgRow (atM (mrgL (mgOf (mgRow (atM (mrgL (mgOf (mgRow g)) c (mgOf (mgRow g_1)) c_1)))) (List.length (mrgL (mgOf (mgRow g)) c (mgOf (mgRow g_1)) c_1)) (mgOf (mgRow g)) c)))) ∧ mgRow (atM (mrgL (mgOf (mgRow g)) c (mgOf (mgRow g_1)) c_1)) = mgRow (mgOf (mgRow (atM (mrgL (mgOf (mgRow g)) c (mgOf (mgRow g_1)) c_1))))) ∧ condP (decide (List.length (mrgL (mgOf (mgRow (atM (mrgL (mgOf (mgRow g)) c (mgOf (mgRow g_1)) c_1)))) (List.length (mrgL (mgOf (mgRow g)) c (mgOf (mgRow g_1)) c_1)) (mgOf (mgRow g)) c) = List.length (mrgL (mgOf (mgRow g)) c (mgOf (mgRow g_1)) c_1)) && eqMs (mgOf (mgRow (atM (mrgL (mgOf (mgRow (atM (mrgL (mgOf (mgRow g)) c (mgOf (mgRow g_1)) c_1)))) (List.length (mrgL (mgOf (mgRow g)) c (mgOf (mgRow g_1)) c_1)) (mgOf (mgRow g)) c)))) (mgOf (mgRow (atM (mrgL (mgOf (mgRow g)) c (mgOf (mgRow g_1)) c_1)))) (List.length (mrgL (mgOf (mgRow (atM (mrgL (mgOf (mgRow g)) c (mgOf (mgRow g_1)) c_1)))) (List.length (mrgL (mgOf (mgRow g)) c (mgOf (mgRow g_1)) c_1)) (mgOf (mgRow g)) c))) (True ∧ R (.bool true) []) (R (.bool false) [])) (R (.bool false) [])) (R (.bool false) [])) (R (.bool false) [])) (R (.bool false) [])) := by kernel_rfl

theorem lun_ok (hP : C.P = Tryz.prog) (hL : ∀ w, C.laid w → LaidW w) (n : Nat) (v : Nat → Int) : ADet C 9 [.view 1 n (intRow v)] [] (.bool true) [] := by
  refine SpecOK.wpL (prg hP) [(36, .rel R_list), (40, .rel R_turned), (38, .det S_mrgV), (37, .det S_sameM), (35, .det S_awake11)] [] 0
    (.cons (list_ok hP) (.cons (turned_ok hP) (.cons (mrgV_ok hP hL) (.cons (sameM_ok hP) (.cons (awake11_ok hP hL) .nil))))) (hP ▸ Tryz.func9) rfl rfl rfl [] (by kernel_rfl) trivial ?_
  rw [nf_lun]
  have tel : ∀ g : Nat → MG, mgOf (mgRow g) = g := fun _ => rfl
  simp only [tel]
  refine ⟨trivial, trivial, rfl, by omega, fun na ga a1 ha h1 sa => ⟨trivial, trivial, rfl, by omega, fun nb gb a2 hb h2 sb => ⟨trivial, trivial, rfl, by omega, fun nc gc a3 hc h3 sc => ?_⟩⟩⟩
  have s1 := mrgL_sm sa sb
  have s2 := mrgL_sm sb sc
  have n1 := mrgL_len ga na gb nb
  have n2 := mrgL_len gb nb gc nc
  have n3 := mrgL_len (atM (mrgL ga na gb nb)) (mrgL ga na gb nb).length gc nc
  have n4 := mrgL_len (atM (mrgL ga na gb nb)) (mrgL ga na gb nb).length (atM (mrgL ga na gb nb)) (mrgL ga na gb nb).length
  have n5 := mrgL_len (atM (mrgL ga na gb nb)) (mrgL ga na gb nb).length ga na
  have eqs : ∀ {X Y : List MG}, X = Y → (decide (X.length = Y.length) && eqMs (atM X) (atM Y) X.length) = false → False := fun e q => by rw [sameM_true e] at q; cases q
  have le : ∀ {k : Nat}, k ≤ 1000 → k ≤ 1000000 := fun h => by omega
  have le' : ∀ {k : Nat}, k ≤ 1000 → k ≤ 100000 := fun h => by omega
  refine ⟨⟨le' (by omega), le' (by omega), trivial, trivial, sa, sb⟩, ⟨le' (by omega), le' (by omega), trivial, trivial, sb, sa⟩, ⟨le (show (mrgL ga na gb nb).length ≤ 1000 by omega), trivial, trivial⟩, condP_intro (fun _ => ?_) (fun q => (eqs (mrgL_comm gb nb ga na) q).elim)⟩
  refine ⟨⟨le' (show (mrgL ga na gb nb).length ≤ 1000 by omega), le' (by omega), trivial, trivial, s1, sc⟩, ⟨le' (by omega), le' (by omega), trivial, trivial, sb, sc⟩, ⟨le' (by omega), le' (show (mrgL gb nb gc nc).length ≤ 1000 by omega), trivial, trivial, sa, s2⟩, ⟨le (show (mrgL (atM (mrgL ga na gb nb)) (mrgL ga na gb nb).length gc nc).length ≤ 1000 by omega), trivial, trivial⟩, condP_intro (fun _ => ?_) (fun q => (eqs (mrgL_assoc ga na gb nb gc nc) q).elim)⟩
  refine ⟨⟨le' (show (mrgL ga na gb nb).length ≤ 1000 by omega), le' (show (mrgL ga na gb nb).length ≤ 1000 by omega), trivial, trivial, s1, s1⟩, ⟨le (show (mrgL (atM (mrgL ga na gb nb)) (mrgL ga na gb nb).length (atM (mrgL ga na gb nb)) (mrgL ga na gb nb).length).length ≤ 1000 by omega), trivial, trivial⟩, condP_intro (fun _ => ?_) (fun q => (eqs (mrgL_self ga na gb nb) q).elim)⟩
  refine ⟨trivial, trivial, rfl, by omega, trivial, by omega, fun k h a4 hk ha4 hm => ?_⟩
  have hm : ∀ x, x ∈ lst h k ↔ x ∈ lst ga na := hm
  have n6 := mrgL_len h k gb nb
  have sh : ∀ i, i < k → (h i).Sm := fun i hi => by
    obtain ⟨j, hj, e⟩ := List.mem_map.1 ((hm (h i)).1 (List.mem_map.2 ⟨i, List.mem_range.2 hi, rfl⟩))
    rw [← e]; exact sa j (List.mem_range.1 hj)
  refine ⟨⟨le' (by omega), le' (by omega), trivial, trivial, sh, sb⟩, ⟨le (show (mrgL h k gb nb).length ≤ 1000 by omega), trivial, trivial⟩, condP_intro (fun _ => ?_) (fun q => (eqs (mrgL_set hm gb nb) q).elim)⟩
  exact ⟨⟨le' (show (mrgL ga na gb nb).length ≤ 1000 by omega), le' (by omega), trivial, trivial, s1, sa⟩, ⟨le (show (mrgL (atM (mrgL ga na gb nb)) (mrgL ga na gb nb).length ga na).length ≤ 1000 by omega), trivial, trivial⟩, condP_intro (fun _ => ⟨trivial, trivial, trivial⟩) (fun q => (eqs (mrgL_again ga na gb nb) q).elim)⟩
end Go.Eng
/- The row of CollectionUnion. -/
namespace Go.Eng
open Go.Proofs Go.RowKit Go.ChangeShapes Go.WideShapes Go.ChangeAt

theorem params_Cu : Tryz.f9.params = #[23] := by kernel_rfl

set_option maxRecDepth 100000 in
theorem lifted_Cu (os : Os) (started : os.Started) (H : Type) (enc : TypeId × Value → H) :
    ReturnsInHanded {} Tryz.checked os 9 .any (fun w args => (Go.Proofs.YtokpcnppihgdlaaGreatDoor.Rows.collectionUnionSpec.pre enc Tryz.prog Tryz.f9 [] false w args ∧ laidMetH Tryz.prog Go.Proofs.YtokpcnppihgdlaaGreatDoor.Rows.collectionUnionRow.laid w) ∧ sizedMet enc Tryz.prog Tryz.f9 (OpenSpec.ofChange Go.Proofs.YtokpcnppihgdlaaGreatDoor.Rows.collectionUnionSpec) false w args)
      (Go.Proofs.YtokpcnppihgdlaaGreatDoor.Rows.collectionUnionSpec.post enc Tryz.prog Tryz.f9 false true false false) := by
  refine handed_and_shaped (C := Tryz.checked) (X := fun w _ => laidMetH Tryz.prog Go.Proofs.YtokpcnppihgdlaaGreatDoor.Rows.collectionUnionRow.laid w) (fun _ _ _ hh h => h.of_heap hh) ownK started (by kernel_rfl) Tryz.func9
    (ChangeSpec.witness_at (enc := enc) (C := Tryz.checked) (os := os) (X := fun w _ => laidMetH Tryz.prog Go.Proofs.YtokpcnppihgdlaaGreatDoor.Rows.collectionUnionRow.laid w) false (laidWorld os) #[.slice none 0 0] 8 rfl (by kernel_rfl) (by kernel_rfl) (by kernel_rfl) (by kernel_rfl) (by kernel_rfl) (laid_met os _)) ?_
  intro W base args ds gs before hval0 hW hL hsh
  have hval : ∀ (j : Nat) t v, Tryz.f9.params[j]? = some t → args[j]? = some v → Value.okWide Tryz.prog W .any base t v := hval0
  have hW' := hW
  obtain ⟨p, q, hA0, hV, rfl, hfz, hnd⟩ := hW
  have hA : DataW.TrodAll enc Tryz.prog W 0 (fun _ => true) true Tryz.f9.params.toList args.toList ds p := hA0
  rw [params_Cu] at hA hval
  obtain ⟨v0, vs0, d0, ds0, p0, q0, hargs, rfl, rfl, h0, r0⟩ := trodAll_cons hA
  obtain ⟨rfl, rfl, rfl⟩ := trodAll_nil r0
  obtain rfl : args = #[v0] := by cases args; simp_all
  obtain ⟨rfl, rfl⟩ := trodVars_none hV
  obtain ⟨a0, len0, cap0, rfl⟩ := okWide_slice undIs (hval 0 23 v0 rfl rfl)
  have k0 := h0
  have lt0 : ∀ x ∈ p0, x.block < W.heap.size := by obtain ⟨m, hm⟩ := k0; exact DataW.trod_lt m _ _ _ hm
  obtain ⟨m0, hm0⟩ := h0
  obtain ⟨A0, n0, c0, w0, e0, V0⟩ := read_ints hm0
  have e0 : [Value.slice a0 len0 cap0] = [Value.slice A0 n0 c0] := e0
  simp only [List.cons.injEq, and_true] at e0
  rw [← e0] at V0
  have lw := laidW_of hL hsh
  refine (ADet.top (C := cx) (lun_ok rfl (fun _ h => h) n0 w0) lw (gsz_le lw) (cargs := [.slice a0 len0 cap0]) rfl (fun j x u hx hu => ?_)).mono fun e W' ⟨he, bel⟩ => ?_
  · match j with
    | 0 => obtain rfl := Option.some.inj hx; obtain rfl := Option.some.inj hu; exact V0
    | j + 1 => simp at hx
  · subst he
    exact ⟨_, rfl, _, _, _, [], _, [], hW', trodAll_mk1 (shut_bool (show Tryz.prog.underlying 4 = some .bool by kernel_rfl) _), (trodAll_cons_mk (Below.trod laidOut (by kernel_rfl) (of_decide_eq_true (by kernel_rfl)) k0 bel lt0) trodAll_mk0), rfl, bel.frame _, fun h => by cases h⟩

set_option maxRecDepth 100000 in
set_option maxHeartbeats 8000000 in
theorem closed_Cu : joinedFacts Tryz.prog 9 Tryz.f9 Go.Proofs.YtokpcnppihgdlaaGreatDoor.Rows.collectionUnionSpec Go.Proofs.YtokpcnppihgdlaaGreatDoor.Rows.collectionUnionRow = true := by
  unfold joinedFacts
  simp only [Bool.and_eq_true]
  exact ⟨⟨⟨⟨⟨⟨⟨⟨⟨⟨⟨⟨⟨⟨⟨⟨⟨⟨⟨⟨⟨⟨⟨⟨⟨⟨⟨⟨⟨⟨⟨(by as_aux_lemma => kernel_rfl), laidOut⟩, mapsB⟩, by as_aux_lemma => kernel_rfl⟩, by as_aux_lemma => kernel_rfl⟩, by as_aux_lemma => kernel_rfl⟩, by as_aux_lemma => kernel_rfl⟩, by as_aux_lemma => kernel_rfl⟩, by as_aux_lemma => kernel_rfl⟩, by as_aux_lemma => kernel_rfl⟩, by as_aux_lemma => kernel_rfl⟩, by as_aux_lemma => kernel_rfl⟩, by as_aux_lemma => kernel_rfl⟩, by as_aux_lemma => kernel_rfl⟩, by as_aux_lemma => kernel_rfl⟩, by as_aux_lemma => kernel_rfl⟩, by as_aux_lemma => kernel_rfl⟩, by as_aux_lemma => kernel_rfl⟩, by as_aux_lemma => kernel_rfl⟩, by as_aux_lemma => kernel_rfl⟩, by as_aux_lemma => kernel_rfl⟩, by as_aux_lemma => kernel_rfl⟩, plainB⟩, by as_aux_lemma => kernel_rfl⟩, heardB⟩, enterB⟩, liftB⟩, by as_aux_lemma => kernel_rfl⟩, by as_aux_lemma => kernel_rfl⟩, by as_aux_lemma => kernel_rfl⟩, by as_aux_lemma => kernel_rfl⟩, by as_aux_lemma => kernel_rfl⟩
set_option maxRecDepth 100000 in
theorem inst_Cu : Tryz.f9.isInstance Tryz.prog Go.Proofs.YtokpcnppihgdlaaGreatDoor.Rows.collectionUnionRow.origin Go.Proofs.YtokpcnppihgdlaaGreatDoor.Rows.collectionUnionRow.targs := of_decide_eq_true (by kernel_rfl)
set_option maxRecDepth 100000 in
theorem over_Cu : Go.Proofs.YtokpcnppihgdlaaGreatDoor.Rows.collectionUnionRow.holds Go.Proofs.YtokpcnppihgdlaaGreatDoor.Tryz.pinned (OpenSpec.ofChange Go.Proofs.YtokpcnppihgdlaaGreatDoor.Rows.collectionUnionSpec) :=
  OpenClaim.holds_of_wide 9 Tryz.f9 rfl rfl rfl rfl rfl rfl rfl ⟨rfl, rfl, rfl, rfl, rfl⟩ rfl rfl rfl rfl rfl (by kernel_rfl) Tryz.func9 closed_Cu
    inst_Cu (by unfold Func.isWrapper; rw [if_neg (of_decide_eq_false (by kernel_rfl))]; exact ⟨rfl, rfl⟩)
    (fun os started H enc _ => lifted_Cu os started H enc)
end Go.Eng
/- What all cards of the program share. -/
namespace Go.Proofs.YtokpcnppihgdlaaGreatDoor
open Go
def harB : Bool × String := (true, "9fc102e4074b6cbfcb17ff81fe27951d79d0a08a23044dbb02ad96fa3f9cf2ef")
set_option maxRecDepth 100000 in
theorem mainB : Tryz.prog.mainIs = some (harB.1, harB.2.toList) := by kernel_rfl
set_option maxRecDepth 100000 in
theorem looksB : true = Tryz.prog.looks [] := by kernel_rfl
end Go.Proofs.YtokpcnppihgdlaaGreatDoor
/- The tied card of CollectionUnion: its statement is 'CollectionUnionCardSaid' of the given cards. -/
namespace Go.Proofs.YtokpcnppihgdlaaGreatDoor
open Go

set_option maxRecDepth 100000 in
theorem wf_Cu : Rows.collectionUnionRow.wfByText (OpenSpec.ofChange Rows.collectionUnionSpec) = true := by kernel_rfl
set_option maxRecDepth 100000 in
theorem goes_Cu : false = Rows.collectionUnionRow.goesBy Tryz.prog := by kernel_rfl
theorem named_Cu : Tryz.prog.funcNamed "priceoffice/priceofficelaw11.CollectionUnion" = some 9 := by kernel_rfl
theorem stand_Cu0 : Tryz.prog.wantsStandIn 23 = false := by kernel_rfl

theorem card_Cu : Rows.CollectionUnionCardSaid :=
  Claim7.holds_tied_plain_at .later [] [.data, .data, .data, .data, .sentinel, .sentinel, .pinned] true harB true
    Go.Eng.over_Cu (fun _ h => by cases h) wf_Cu (fun _ h => by cases h) collectionUnion_row_tie rfl ⟨rfl, rfl⟩ mainB rfl
    (fun f fn hf hfn => by
      obtain rfl : f = 9 := Option.some.inj (named_Cu.symm.trans hf) |>.symm
      obtain rfl : fn = Tryz.f9 := (Option.some.inj (Tryz.func9.symm.trans hfn)).symm
      exact ⟨looksB, fun j t ht => by
        rw [Go.Eng.params_Cu] at ht
        have h3 : t = 23 := by
          rcases j with _ | j
          · exact by simpa using ht.symm
          · simp at ht
        rcases h3 with rfl
        · exact stand_Cu0⟩)
    goes_Cu
end Go.Proofs.YtokpcnppihgdlaaGreatDoor
