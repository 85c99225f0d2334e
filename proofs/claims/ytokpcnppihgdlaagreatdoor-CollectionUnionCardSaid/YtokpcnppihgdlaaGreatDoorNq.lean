/- Lemmas that the tied card of CollectionUnion is proved by. -/
import Derived.Test.YtokpcnppihgdlaaGreatDoorNp
import Derived.Test.YtokpcnppihgdlaaGreatDoorNn
import Derived.Test.YtokpcnppihgdlaaGreatDoorNd
import Derived.Test.YtokpcnppihgdlaaGreatDoorNc
import Derived.Test.YtokpcnppihgdlaaGreatDoorNl
import Derived.Shelf.SlGeneric
import Derived.Ground.SlsfProg
import Derived.Shelf.SlSortCmp.NoneTotal
import Derived.Test.YtokpcnppihgdlaaGreatDoorProg
import Derived.Test.YtokpcnppihgdlaaGreatDoorNi
import Derived.Test.YtokpcnppihgdlaaGreatDoorNh
/- Grow at messages: the library's contract. -/
namespace Go.Eng
open Go.Proofs Go.RowKit
variable {C : Ctx} [C.Loose]
set_option maxRecDepth 20000

theorem grow_ok (hP : C.P = Tryz.prog) : RSpecOK C 100 R_grow := by
  have _ : C.Loose := inferInstance
  rintro args objs R h
  unfold R_grow at h
  split at h
  · rename_i n
    obtain ⟨h0, hn, hz, hp⟩ := h
    refine ⟨⟨_, hP ▸ Tryz.func100, rfl, by decide⟩, fun E bs w cargs h1 h2 h3 hW h5 h6 h7 => ?_⟩
    obtain ⟨a, b, rfl⟩ : ∃ a b, cargs = [a, b] := by
      match cargs, h6 with
      | [a, b], _ => exact ⟨a, b, rfl⟩
    have V0 := h7 0 _ _ rfl rfl
    have V1 := (h7 1 _ _ rfl rfl).int_iff
    subst V1
    generalize hu : AV.nil = u at V0
    cases V0 <;> cases hu
    have hO : lkL [] = lk [] := by funext i; rfl
    rw [hO] at hW
    obtain ⟨m, rfl⟩ : ∃ m : Nat, n = (m : Int) := ⟨n.toNat, by omega⟩
    rcases Nat.eq_zero_or_pos m with rfl | hm
    · refine Calls.mono (hP ▸ Any8.slices_Grow_room Tryz.grow100 none 0 0 0 w (by omega) (by omega) (by omega) (by omega)) ?_
      rintro e w' ⟨rfl, rfl⟩
      exact ⟨_, .nil, [], bs, rfl, hz rfl, hW, .nil, fun r _ => ⟨rfl, h5 r (Nat.zero_le _)⟩⟩
    · obtain ⟨i, hi, hisz, hib, hiz⟩ := ((prg hP).ok 56 _ rfl).2.1
      have hbytes : i.bytes ≤ 1000 := by rw [hib]; decide
      have hs15 : i.size = 15 := hisz
      have hmul : (0 + m) * i.bytes ≤ 140737488355328 := Nat.le_trans (Nat.mul_le_mul (show 0 + m ≤ 1000000 by omega) hbytes) (by decide)
      have hc := Any8.slices_Grow_grow Tryz.grow100 i _ (hP ▸ hi) hiz (by omega) none 0 0 m [] w (by omega) (by omega) hmul (by omega) (by simp) (fun _ => rfl) (fun a h => by cases h)
      have hcap := grownCap_ge w (0 + m) 0 56
      have hmax := grownCap_le_maxLen w (0 + m) 0 56 (by unfold maxLen; omega)
      have c1 := h5 0 (Nat.zero_le _)
      have key : ∀ vs : Array Value, vs.size = grownCap w (0 + m) 0 56 * 15 → ∃ v u O' bs', (Ending.returned (.slice (some ⟨w.heap.size, 0, none⟩) 0 (grownCap w (0 + m) 0 56))) = .returned v ∧ R u O' ∧ WRep C E (lk O') bs' (w.drew.alloc (.cells vs 56)) ∧ V (w.drew.alloc (.cells vs 56)) (MB E (lk O') bs') bs' v u ∧ ∀ r, 0 + 16 ≤ r → lk O' r = none ∧ bs' r = none := by
        intro vs hvs
        obtain ⟨k1, k2⟩ := new_row hW c1 (w1 := w.drew) rfl rfl ⟨rfl, fun _ => Nat.le_succ _⟩ rfl (vs := vs) (e := 56) (sz := 15) (n := 0) (c := grownCap w (0 + m) 0 56) (f := fun _ => []) (Nat.zero_le _) hmax hvs
          (fun i hi => absurd hi (Nat.not_lt_zero _)) (fun i hi => absurd hi (Nat.not_lt_zero _)) (fun i hi => absurd hi (Nat.not_lt_zero _))
        have e1 : up (lk []) 0 (AObj.row 56 15 0 (fun _ => []) false) = lk [(0, .row 56 15 0 (fun _ => []) false)] := by
          funext r
          rw [lk_cons]
          by_cases h : 0 = r
          · subst h; rw [up_same, if_pos rfl]
          · rw [up_other _ _ _ h, if_neg h]
        rw [e1] at k2
        refine ⟨_, .own 0 0, [(0, .row 56 15 0 (fun _ => []) false)], up bs 0 (.blk w.heap.size (grownCap w (0 + m) 0 56)), rfl, hp (by omega), k2, .own (up_same _ _ _) (Nat.zero_le _) hmax, fun r hr => ?_⟩
        exact ⟨by rw [lk_cons, if_neg (by omega)]; rfl, by rw [up_other _ _ _ (by omega)]; exact h5 r (Nat.zero_le _)⟩
      refine Calls.mono (hP ▸ hc) ?_
      rintro e w' ⟨rfl, rfl⟩
      refine key _ ?_
      generalize hz15 : Value.cells _ = zc
      have hz15 : zc.size = 15 := by rw [← hz15]; rfl
      have hcap : 0 + m ≤ grownCap w (0 + m) 0 56 := hcap
      show (#[] ++ Builtin.zeroCells zc (0 + m - 0) ++ Builtin.zeroCells zc (grownCap w (0 + m) 0 56 - (0 + m))).size = _
      rw [Array.size_append, Array.size_append, size_zeroCells, size_zeroCells, hz15]
      simp only [Array.size_empty]
      omega
  · exact h.elim
end Go.Eng
/- Concat at messages. -/
namespace Go.Eng
open Go.Proofs Go.RowKit
variable {C : Ctx} [C.Loose]
set_option maxRecDepth 20000
theorem nf_cc (nn : Nat → Nat) (gg : Nat → Nat → MG) (c : Nat) (R : AV → List (Nat × AObj) → Prop) : wpFn te [(100, .rel R_grow)] [(3, L_c1 nn gg c), (11, L_c2 nn gg c)] 0 Tryz.f72 [.own 0 c] [.row 58 1 c (slRow nn gg) false] R = ((TEq [(0, .own 0 c), (3, .int .i64 0), (9, .own 0 c), (10, .int .i64 (↑c : Int)), (11, .int .i64 0)] [(0, .own 0 c), (3, .int .i64 (↑(sumN nn 0) : Int)), (9, .own 0 c), (10, .int .i64 (↑c : Int)), (11, .int .i64 (↑0 : Int))] ∧ RowsEq [(0, .row 58 1 c (slRow nn gg) false)] [(0, .row 58 1 c (slRow nn gg) false)]) ∧ c ≤ 1000 ∧ sumN nn c ≤ 1000000 ∧ (0 : Int) ≤ (↑(sumN nn c) : Int) ∧ (↑(sumN nn c) : Int) ≤ (1000000 : Int) ∧ ((↑(sumN nn c) : Int) = (0 : Int) → (TEq [(6, .own 1 0), (25, .own 0 c), (26, .int .i64 (↑c : Int)), (27, .int .i64 0)] [(6, .own 1 0), (25, .own 0 c), (26, .int .i64 (↑c : Int)), (27, .int .i64 (↑0 : Int))] ∧ RowsEq [(0, .row 58 1 c (slRow nn gg) false), (1, .row 56 15 0 (fun (x : Nat) => []) false)] [(0, .row 58 1 c (slRow nn gg) false), (1, .row 56 15 0 (mgRow (catG nn gg 0)) false)]) ∧ c ≤ 1000 ∧ sumN nn c ≤ 1000000 ∧ (∀ (i : Nat), i < c → true = true) ∧ (∀ (i : Nat), i < sumN nn c → true = true) ∧ ∃ (O' : List (Nat × AObj)), RowsEq [(0, .row 58 1 c (slRow nn gg) false), (1, .row 56 15 (sumN nn c) (mgRow (catG nn gg c)) false)] O' ∧ R (.own 1 (sumN nn c)) O') ∧ ((0 : Int) < (↑(sumN nn c) : Int) → (∀ (i : Nat), i < 0 → true = true) ∧ (TEq [(6, .own 1 0), (25, .own 0 c), (26, .int .i64 (↑c : Int)), (27, .int .i64 0)] [(6, .own 1 0), (25, .own 0 c), (26, .int .i64 (↑c : Int)), (27, .int .i64 (↑0 : Int))] ∧ RowsEq [(0, .row 58 1 c (slRow nn gg) false), (1, .row 56 15 0 (fun (x : Nat) => []) false)] [(0, .row 58 1 c (slRow nn gg) false), (1, .row 56 15 0 (mgRow (catG nn gg 0)) false)]) ∧ c ≤ 1000 ∧ sumN nn c ≤ 1000000 ∧ (∀ (i : Nat), i < c → true = true) ∧ (∀ (i : Nat), i < sumN nn c → true = true) ∧ ∃ (O' : List (Nat × AObj)), RowsEq [(0, .row 58 1 c (slRow nn gg) false), (1, .row 56 15 (sumN nn c) (mgRow (catG nn gg c)) false)] O' ∧ R (.own 1 (sumN nn c)) O')) := by kernel_rfl
theorem nf_c1_round (nn : Nat → Nat) (gg : Nat → Nat → MG) (c k : Nat) (P : Nat → Prop) (R : Exit → St → Prop) : roundP ⟨te, [], [], 1, 36, 0⟩ (loopB Tryz.f72 3) [0, 3, 9, 10, 11] [0, 3] [] (S_c1 nn gg c) P R (S_c1 nn gg c k) = (condP (decide ((↑k : Int) < (↑c : Int))) (((0 : Int) ≤ (↑k : Int) ∧ (↑k : Int) < (↑c : Int)) ∧ (Int.toNat (↑k : Int) < c ∧ 1 = 1) ∧ inR .i64 ((↑(sumN nn k) : Int) + (↑(nn (Int.toNat (↑k : Int))) : Int)) ∧ condP (decide ((↑(sumN nn k) : Int) + (↑(nn (Int.toNat (↑k : Int))) : Int) < (0 : Int))) False (inR .i64 ((↑k : Int) + (1 : Int)) ∧ ∃ (i' : Nat), (TEq [(0, .own 0 c), (3, .int .i64 ((↑(sumN nn k) : Int) + (↑(nn (Int.toNat (↑k : Int))) : Int))), (9, .own 0 c), (10, .int .i64 (↑c : Int)), (11, .int .i64 ((↑k : Int) + (1 : Int)))] [(0, .own 0 c), (3, .int .i64 (↑(sumN nn i') : Int)), (9, .own 0 c), (10, .int .i64 (↑c : Int)), (11, .int .i64 (↑i' : Int))] ∧ RowsEq [(0, .row 58 1 c (slRow nn gg) false)] [(0, .row 58 1 c (slRow nn gg) false)]) ∧ P i')) ((∀ (i : Nat), i < c → true = true) ∧ ∃ (O' : List (Nat × AObj)), RowsEq [(0, .row 58 1 c (slRow nn gg) false)] O' ∧ R (.exit 0) (St.mk [(0, .own 0 c), (3, .int .i64 (↑(sumN nn k) : Int))] O' 1 []))) := by kernel_rfl
theorem nf_c2_round (nn : Nat → Nat) (gg : Nat → Nat → MG) (c k : Nat) (P : Nat → Prop) (R : Exit → St → Prop) : roundP ⟨te, [], [], 1, 36, 0⟩ (loopB Tryz.f72 11) [6, 25, 26, 27] [6] [] (S_c2 nn gg c) P R (S_c2 nn gg c k) = (condP (decide ((↑k : Int) < (↑c : Int))) (((0 : Int) ≤ (↑k : Int) ∧ (↑k : Int) < (↑c : Int)) ∧ (Int.toNat (↑k : Int) < c ∧ 1 = 1) ∧ (15 = 15 ∧ sumN nn k ≤ sumN nn k ∧ 15 = 15 ∧ 56 = 56 ∧ 15 = 15 ∧ sumN nn k + nn (Int.toNat (↑k : Int)) ≤ 9223372036854775807 ∧ (sumN nn k + nn (Int.toNat (↑k : Int))) * TI.bytes (TI.mk (TypeDesc.struct #[Field.mk "Device" (9 : TypeId) 0 false "" "" 0, Field.mk "Sequence" (3 : TypeId) 1 false "" "" 16, Field.mk "Kind" (3 : TypeId) 2 false "" "" 24, Field.mk "Visit" (52 : TypeId) 3 false "" "" 32, Field.mk "Decision" (54 : TypeId) 10 false "" "" 112]) 15 176 (Value.agg #[Value.string (ByteArray.mk #[]), Value.int IntKind.i64 0, Value.int IntKind.i64 0, Value.string (ByteArray.mk #[]), Value.string (ByteArray.mk #[]), Value.int IntKind.i64 0, Value.int IntKind.i64 0, Value.int IntKind.i64 0, Value.int IntKind.i64 0, Value.string (ByteArray.mk #[]), Value.string (ByteArray.mk #[]), Value.string (ByteArray.mk #[]), Value.int IntKind.i64 0, Value.string (ByteArray.mk #[]), Value.int IntKind.i64 0]) true) ≤ 140737488355328) ∧ inR .i64 ((↑k : Int) + (1 : Int)) ∧ ∃ (i' : Nat), (TEq [(6, .own 1 (sumN nn k + nn (Int.toNat (↑k : Int)))), (25, .own 0 c), (26, .int .i64 (↑c : Int)), (27, .int .i64 ((↑k : Int) + (1 : Int)))] [(6, .own 1 (sumN nn i')), (25, .own 0 c), (26, .int .i64 (↑c : Int)), (27, .int .i64 (↑i' : Int))] ∧ RowsEq [(0, .row 58 1 c (slRow nn gg) false), (1, .row 56 15 (sumN nn k + nn (Int.toNat (↑k : Int))) (apF (sumN nn k) (mgRow (catG nn gg k)) (mgRow (gg (Int.toNat (↑k : Int))))) false)] [(0, .row 58 1 c (slRow nn gg) false), (1, .row 56 15 (sumN nn i') (mgRow (catG nn gg i')) false)]) ∧ P i') ((∀ (i : Nat), i < c → true = true) ∧ (∀ (i : Nat), i < sumN nn k → true = true) ∧ ∃ (O' : List (Nat × AObj)), RowsEq [(0, .row 58 1 c (slRow nn gg) false), (1, .row 56 15 (sumN nn k) (mgRow (catG nn gg k)) false)] O' ∧ R (.exit 2) (St.mk [(6, .own 1 (sumN nn k))] O' 2 []))) := by kernel_rfl

theorem sumN_le (nn : Nat → Nat) : ∀ {k c : Nat}, k ≤ c → sumN nn k ≤ sumN nn c
  | k, 0, h => by obtain rfl : k = 0 := by omega
                  exact Nat.le_refl _
  | k, c + 1, h => by
    by_cases e : k = c + 1
    · rw [e]; exact Nat.le_refl _
    · have := sumN_le nn (show k ≤ c by omega)
      rw [sumN]; omega
theorem c1_loop (hP : C.P = Tryz.prog) (nn : Nat → Nat) (gg : Nat → Nat → MG) (c : Nat) : LoopOK C 1 36 (loopC Tryz.f72 3) (L_c1 nn gg c) := by
  have _ : C.Loose := inferInstance
  rintro st Q ⟨h0, hc, hs, hQ⟩
  refine LoopOK.mk (prg hP) [] 0 .nil [0, 3, 9, 10, 11] [0, 3] [] (S_c1 nn gg c) (fun k => k ≤ c) (fun k => c - k) 0 (Nat.zero_le _) h0 (fun k hk => ?_) (fun i => ⟨fun _ _ => rfl, trivial⟩)
  rw [nf_c1_round, Int.toNat_natCast]
  refine condP_dec (fun h1 => ?_) (fun h1 => ?_)
  · have hle := sumN_le nn (show k + 1 ≤ c by omega)
    rw [sumN] at hle
    refine ⟨⟨by omega, by omega⟩, ⟨by omega, rfl⟩, by simp only [inR]; omega, condP_dec (fun q => ?_) (fun _ => ⟨by simp only [inR]; omega, k + 1, ⟨?_, ⟨rfl, rfl, rfl, rfl, rfl, fun _ _ => rfl⟩, trivial⟩, by omega, by omega⟩)⟩
    · exfalso; omega
    · rfl
  · have : k = c := by omega
    subst this
    exact ⟨fun _ _ => rfl, _, rowsEqR _, hQ⟩
theorem c2_loop (hP : C.P = Tryz.prog) (nn : Nat → Nat) (gg : Nat → Nat → MG) (c : Nat) : LoopOK C 1 36 (loopC Tryz.f72 11) (L_c2 nn gg c) := by
  have _ : C.Loose := inferInstance
  rintro st Q ⟨h0, hc, hs, hQ⟩
  refine AWP.ownNil 6 56 15 ?_
  refine LoopOK.mk (prg hP) [] 0 .nil [6, 25, 26, 27] [6] [] (S_c2 nn gg c) (fun k => k ≤ c) (fun k => c - k) 0 (Nat.zero_le _) h0 (fun k hk => ?_) (fun i => ⟨fun _ _ => rfl, fun _ _ => rfl, trivial⟩)
  rw [nf_c2_round, Int.toNat_natCast]
  refine condP_dec (fun h1 => ?_) (fun h1 => ?_)
  · have hle := sumN_le nn (show k + 1 ≤ c by omega)
    rw [sumN] at hle
    refine ⟨⟨by omega, by omega⟩, ⟨by omega, rfl⟩, ⟨rfl, Nat.le_refl _, rfl, rfl, rfl, by omega, ?_⟩, by simp only [inR]; omega, k + 1, ⟨rfl, ⟨rfl, rfl, rfl, rfl, rfl, fun _ _ => rfl⟩, ⟨rfl, rfl, rfl, rfl, rfl, fun j hj => ?_⟩, trivial⟩, by omega, by omega⟩
    · show (sumN nn k + nn k) * 176 ≤ _
      omega
    · show apF (sumN nn k) (mgRow (catG nn gg k)) (mgRow (gg k)) j = mgRow (catG nn gg (k + 1)) j
      unfold apF mgRow
      rw [catG]
      by_cases h : j < sumN nn k
      · simp only [h, if_true]
      · simp only [h, if_false]
  · have : k = c := by omega
    subst this
    exact ⟨fun _ _ => rfl, fun _ _ => rfl, _, rowsEqR _, hQ⟩
theorem concat_ok (hP : C.P = Tryz.prog) : RSpecOK C 72 R_concat := by
  rintro args objs R h
  unfold R_concat at h
  split at h
  · rename_i c t c' f fr
    obtain ⟨nn, gg, rfl, rfl, rfl, hc, hf, hs, hR⟩ := h
    refine ACalls.rowEq 0 (f' := slRow nn gg) rfl hf (ACalls.frzO 1 ?_)
    show ACalls C _ [.own 0 c] [.row 58 1 c (slRow nn gg) false] _
    refine RSpecOK.wpL (prg hP) [(100, .rel R_grow)] [(3, L_c1 nn gg c), (11, L_c2 nn gg c)] 0 (.cons (grow_ok hP) .nil) (hP ▸ Tryz.func72) rfl rfl rfl [(loopC Tryz.f72 3, L_c1 nn gg c), (loopC Tryz.f72 11, L_c2 nn gg c)] (by kernel_rfl) ⟨c1_loop hP nn gg c, c2_loop hP nn gg c, trivial⟩ ?_
    rw [nf_cc]
    have fin : (∀ (i : Nat), i < c → true = true) ∧ (∀ (i : Nat), i < sumN nn c → true = true) ∧ ∃ (O' : List (Nat × AObj)), RowsEq [(0, .row 58 1 c (slRow nn gg) false), (1, .row 56 15 (sumN nn c) (mgRow (catG nn gg c)) false)] O' ∧ frzO 1 R (.own 1 (sumN nn c)) O' := by
      refine ⟨fun _ _ => rfl, fun _ _ => rfl, _, rowsEqR _, fun _ _ => rfl, ?_⟩
      have hb : Nat.ble (sumN nn c) (sumN nn c) = true := Nat.ble_eq_true_of_le (Nat.le_refl _)
      have e : frzC 1 15 (sumN nn c) (mgRow (catG nn gg c)) (.own 1 (sumN nn c)) = .view 15 (sumN nn c) (mgRow (catG nn gg c)) := by simp [frzC, frzA, frz, hb]
      rw [e]
      exact hR
    have start : TEq [(6, .own 1 0), (25, .own 0 c), (26, .int .i64 (c : Int)), (27, .int .i64 0)] [(6, .own 1 0), (25, .own 0 c), (26, .int .i64 (c : Int)), (27, .int .i64 ((0 : Nat) : Int))] ∧ RowsEq [(0, .row 58 1 c (slRow nn gg) false), (1, .row 56 15 0 (fun _ => []) false)] [(0, .row 58 1 c (slRow nn gg) false), (1, .row 56 15 0 (mgRow (catG nn gg 0)) false)] :=
      ⟨rfl, ⟨rfl, rfl, rfl, rfl, rfl, fun _ _ => rfl⟩, ⟨rfl, rfl, rfl, rfl, rfl, fun i hi => absurd hi (Nat.not_lt_zero i)⟩, trivial⟩
    exact ⟨⟨rfl, ⟨rfl, rfl, rfl, rfl, rfl, fun _ _ => rfl⟩, trivial⟩, hc, hs, by omega, by omega, fun _ => ⟨start, hc, hs, fin⟩, fun _ => ⟨fun _ _ => rfl, start, hc, hs, fin⟩⟩
  · exact h.elim
end Go.Eng
/- A loop whose inner loops' specifications depend on the state of the round. -/
namespace Go.Eng

theorem LoopOK.mkI {C : Ctx} {te : TE} (hte : Prg C te) {m N : Nat} {x : Code} {s : St} {Q : Exit → St → Prop} (calls : List (Nat × CSpec)) {ι : Type} (loops : ι → List (Nat × LSpec)) (fuel : Nat) (hc : CallsOK C calls) (ls : ι → List (Code × LSpec)) (hls : ∀ i, loopsOf (loops i) x = ls i) (hL : ∀ i, LoopsOK C m N (ls i))
    (F Fe Fr : List Nat) (S : ι → St) (I : ι → Prop) (μ : ι → Nat) (i0 : ι) (hI : I i0)
    (h0 : canonIs te m F s (S i0)) (round : ∀ i, I i → roundP ⟨te, calls, loops i, m, N, fuel⟩ x F Fe Fr S (fun i' => I i' ∧ μ i' < μ i) Q (S i)) (hS : ∀ i, rowVC (S i).O True := by intro i; trivial) : AWP C m N (.loop x) Q s := by
  obtain ⟨ρ0, hw⟩ := canonIs_weak h0 (rowVC_elim (hS i0)).1
  have key : AWP C m N (.loop x) (Eng.canQ te m Fe Fr Q) s := by
    refine AWP.loop S I μ i0 hI hw fun i hi => ?_
    have hG : EnvOK C ⟨te, calls, loops i, m, N, fuel⟩ := ⟨hte.ok, hte.one, hc⟩
    refine (wpC_ok hG x _ _ (by rw [hls i]; exact (hL i).all) (round i hi)).mono fun e s hq => thenA_mono (fun s hs => ?_) e s hq
    obtain ⟨i', h3, h1, h2⟩ := hs
    obtain ⟨ρ, hw'⟩ := canonIs_weak h3 (rowVC_elim (hS i')).1
    exact ⟨i', ρ, h1, h2, hw'⟩
  exact key.canQ

end Go.Eng
/- Rows of lists: elements put in, and put behind. -/
namespace Go.Eng

/-- The row of a list with an element put in at p. -/
theorem insRow {α : Type} [Inhabited α] (enc : α → List AV) (L : List α) (x : α) (p : Nat) (hp : p ≤ L.length) (e0 ch : Nat → List AV) (hch : ch 0 = enc x) (j : Nat) (hj : j < 0 + p + 1 + (L.length - p)) :
    apF (0 + p + 1) (apF (0 + p) (apF 0 e0 (fun i => enc (L.getD i default))) ch) (fun i => enc (L.getD (p + i) default)) j = enc ((L.take p ++ x :: L.drop p).getD j default) := by
  unfold apF
  have hlt : (L.take p).length = p := by simp [hp]
  by_cases h1 : j < p
  · rw [if_pos (by omega), if_pos (by omega), if_neg (by omega)]
    show enc _ = enc _
    congr 1
    rw [List.getD_eq_getElem?_getD, List.getD_eq_getElem?_getD, List.getElem?_append_left (by omega), List.getElem?_take, if_pos h1]
    rfl
  · by_cases h2 : j = p
    · subst h2
      rw [if_pos (by omega), if_neg (by omega), Nat.zero_add, Nat.sub_self, hch]
      show enc _ = enc _
      congr 1
      rw [List.getD_eq_getElem?_getD, List.getElem?_append_right (by omega), hlt, Nat.sub_self]
      rfl
    · rw [if_neg (by omega)]
      show enc _ = enc _
      congr 1
      rw [List.getD_eq_getElem?_getD, List.getD_eq_getElem?_getD, List.getElem?_append_right (by omega), hlt]
      obtain ⟨q, rfl⟩ : ∃ q, j = p + 1 + q := ⟨j - (p + 1), by omega⟩
      rw [show p + 1 + q - p = q + 1 by omega, List.getElem?_cons_succ, List.getElem?_drop, show p + 1 + q - (0 + p + 1) = q by omega]
/-- .. put behind. -/
theorem putRowL {α : Type} [Inhabited α] (enc : α → List AV) (L : List α) (x : α) (ch : Nat → List AV) (hch : ch 0 = enc x) (j : Nat) (hj : j < L.length + 1) :
    apF L.length (fun i => enc (L.getD i default)) ch j = enc ((L ++ [x]).getD j default) := by
  unfold apF
  by_cases h1 : j < L.length
  · rw [if_pos h1]
    show enc _ = enc _
    congr 1
    rw [List.getD_eq_getElem?_getD, List.getD_eq_getElem?_getD, List.getElem?_append_left h1]
  · have : j = L.length := by omega
    subst this
    rw [if_neg h1, Nat.sub_self, hch]
    show enc _ = enc _
    congr 1
    simp
end Go.Eng
/- Compact at messages. -/
namespace Go.Eng
open Go.Proofs Go.RowKit
variable {C : Ctx} [C.Loose]
set_option maxRecDepth 20000
theorem nf_cp (g : Nat → MG) (n : Nat) (R : AV → List (Nat × AObj) → Prop) : wpFn te [] [(4, L_cp g n)] 0 Tryz.f75 [.own 0 n] [.row 56 15 n (mgRow g) false] R = (condP (decide ((↑n : Int) < (2 : Int))) ((∀ (i : Nat), i < n → true = true) ∧ ∃ (O' : List (Nat × AObj)), RowsEq [(0, .row 56 15 n (mgRow g) false)] O' ∧ R (.own 0 n) O') ((TEq [(0, .own 0 n), (3, .int .i64 1)] [(0, .own 0 n), (3, .int .i64 (↑1 : Int))] ∧ RowsEq [(0, .row 56 15 n (mgRow g) false)] [(0, .row 56 15 n (mgRow g) false)]) ∧ 2 ≤ n ∧ n ≤ 1000000 ∧ (allK g n = true → (∀ (i : Nat), i < n → true = true) ∧ ∃ (O' : List (Nat × AObj)), RowsEq [(0, .row 56 15 n (mgRow g) false)] O' ∧ R (.own 0 n) O') ∧ ∀ (w : Nat) (h : Nat → MG), lst h w = ddL g n → (∀ (i : Nat), i < w → true = true) ∧ ∃ (O' : List (Nat × AObj)), RowsEq [(0, .row 56 15 w (mgRow h) false)] O' ∧ R (.own 0 w) O')) := by kernel_rfl
theorem nf_cp_round (g : Nat → MG) (n k : Nat) (P : Nat → Prop) (R : Exit → St → Prop) : roundP ⟨te, [], [(9, L_ci g n k)], 1, 61, 0⟩ (loopB Tryz.f75 4) [0, 3] [0] [2] (S_cp g n) P R (S_cp g n k) = (condP (decide ((↑k : Int) < (↑n : Int))) (((0 : Int) ≤ (↑k : Int) ∧ (↑k : Int) < (↑n : Int)) ∧ (Int.toNat (↑k : Int) < n ∧ 15 = 15) ∧ inR .i64 ((↑k : Int) - (1 : Int)) ∧ ((0 : Int) ≤ (↑k : Int) - (1 : Int) ∧ (↑k : Int) - (1 : Int) < (↑n : Int)) ∧ (Int.toNat ((↑k : Int) - (1 : Int)) < n ∧ 15 = 15) ∧ condP (decide (MG.dev (g (Int.toNat (↑k : Int))) = MG.dev (g (Int.toNat ((↑k : Int) - (1 : Int))))) && (decide (MG.seq (g (Int.toNat (↑k : Int))) = MG.seq (g (Int.toNat ((↑k : Int) - (1 : Int))))) && (decide (MG.kind (g (Int.toNat (↑k : Int))) = MG.kind (g (Int.toNat ((↑k : Int) - (1 : Int))))) && (decide (VT.o (MG.v (g (Int.toNat (↑k : Int)))) = VT.o (MG.v (g (Int.toNat ((↑k : Int) - (1 : Int)))))) && (decide (VT.p (MG.v (g (Int.toNat (↑k : Int)))) = VT.p (MG.v (g (Int.toNat ((↑k : Int) - (1 : Int)))))) && (decide (VT.per (MG.v (g (Int.toNat (↑k : Int)))) = VT.per (MG.v (g (Int.toNat ((↑k : Int) - (1 : Int)))))) && (decide (VT.day (MG.v (g (Int.toNat (↑k : Int)))) = VT.day (MG.v (g (Int.toNat ((↑k : Int) - (1 : Int)))))) && (decide (VT.st (MG.v (g (Int.toNat (↑k : Int)))) = VT.st (MG.v (g (Int.toNat ((↑k : Int) - (1 : Int)))))) && (decide (VT.pr (MG.v (g (Int.toNat (↑k : Int)))) = VT.pr (MG.v (g (Int.toNat ((↑k : Int) - (1 : Int)))))) && decide (VT.rep (MG.v (g (Int.toNat (↑k : Int)))) = VT.rep (MG.v (g (Int.toNat ((↑k : Int) - (1 : Int))))))))))) && (decide (DT.o (MG.d (g (Int.toNat (↑k : Int)))) = DT.o (MG.d (g (Int.toNat ((↑k : Int) - (1 : Int)))))) && (decide (DT.p (MG.d (g (Int.toNat (↑k : Int)))) = DT.p (MG.d (g (Int.toNat ((↑k : Int) - (1 : Int)))))) && (decide (DT.per (MG.d (g (Int.toNat (↑k : Int)))) = DT.per (MG.d (g (Int.toNat ((↑k : Int) - (1 : Int)))))) && (decide (DT.dev (MG.d (g (Int.toNat (↑k : Int)))) = DT.dev (MG.d (g (Int.toNat ((↑k : Int) - (1 : Int)))))) && decide (DT.num (MG.d (g (Int.toNat (↑k : Int)))) = DT.num (MG.d (g (Int.toNat ((↑k : Int) - (1 : Int)))))))))))))) (((0 : Int) ≤ (↑k : Int) ∧ (↑k : Int) ≤ (↑n : Int)) ∧ (TEq [(0, .own 0 n), (3, .int .i64 (↑k : Int)), (4, .sub 0 15 (Int.toNat (↑k : Int)) (n - Int.toNat (↑k : Int))), (5, .int .i64 1)] [(0, .own 0 n), (3, .int .i64 (↑(CI.w (CI.mk 1 k g)) : Int)), (4, .sub 0 15 k (n - k)), (5, .int .i64 (↑(CI.k (CI.mk 1 k g)) : Int))] ∧ RowsEq [(0, .row 56 15 n (mgRow g) false)] [(0, .row 56 15 n (mgRow (CI.h (CI.mk 1 k g))) false)]) ∧ (1 ≤ k ∧ k < n ∧ n ≤ 1000000) ∧ allK g k = true ∧ keepF g k = false ∧ ∀ (w : Nat) (h : Nat → MG), w ≤ n → lst h w = ddL g n → ((0 : Int) ≤ (↑w : Int) ∧ (↑w : Int) ≤ (↑n : Int)) ∧ Int.toNat (↑w : Int) ≤ n ∧ ((0 : Int) ≤ (↑w : Int) ∧ (↑w : Int) ≤ (↑n : Int)) ∧ (∀ (i : Nat), i < Int.toNat (↑w : Int) → true = true) ∧ ∃ (O' : List (Nat × AObj)), RowsEq [(0, .row 56 15 (Int.toNat (↑w : Int)) (mgRow h) false)] O' ∧ R .ret (St.mk [(2, .own 0 (Int.toNat (↑w : Int)))] O' 1 [])) (inR .i64 ((↑k : Int) + (1 : Int)) ∧ ∃ (i' : Nat), (TEq [(0, .own 0 n), (3, .int .i64 ((↑k : Int) + (1 : Int)))] [(0, .own 0 n), (3, .int .i64 (↑i' : Int))] ∧ RowsEq [(0, .row 56 15 n (mgRow g) false)] [(0, .row 56 15 n (mgRow g) false)]) ∧ P i')) ((∀ (i : Nat), i < n → true = true) ∧ ∃ (O' : List (Nat × AObj)), RowsEq [(0, .row 56 15 n (mgRow g) false)] O' ∧ R (.exit 0) (St.mk [(0, .own 0 n)] O' 1 []))) := by kernel_rfl
theorem nf_ci_round (g : Nat → MG) (n k0 : Nat) (i : CI) (P : CI → Prop) (R : Exit → St → Prop) : roundP ⟨te, [], [], 1, 61, 0⟩ (loopB Tryz.f75 9) [0, 3, 4, 5] [0, 3] [] (S_ci g n k0) P R (S_ci g n k0 i) = (condP (decide ((↑(CI.k i) : Int) < (↑(n - k0) : Int))) (((0 : Int) ≤ (↑(CI.k i) : Int) ∧ (↑(CI.k i) : Int) < (↑(n - k0) : Int) ∧ 15 = 15) ∧ (k0 + Int.toNat (↑(CI.k i) : Int) < n ∧ 15 = 15) ∧ inR .i64 ((↑(CI.k i) : Int) - (1 : Int)) ∧ ((0 : Int) ≤ (↑(CI.k i) : Int) - (1 : Int) ∧ (↑(CI.k i) : Int) - (1 : Int) < (↑(n - k0) : Int) ∧ 15 = 15) ∧ (k0 + Int.toNat ((↑(CI.k i) : Int) - (1 : Int)) < n ∧ 15 = 15) ∧ condP (!(decide (MG.dev (CI.h i (k0 + Int.toNat (↑(CI.k i) : Int))) = MG.dev (CI.h i (k0 + Int.toNat ((↑(CI.k i) : Int) - (1 : Int))))) && (decide (MG.seq (CI.h i (k0 + Int.toNat (↑(CI.k i) : Int))) = MG.seq (CI.h i (k0 + Int.toNat ((↑(CI.k i) : Int) - (1 : Int))))) && (decide (MG.kind (CI.h i (k0 + Int.toNat (↑(CI.k i) : Int))) = MG.kind (CI.h i (k0 + Int.toNat ((↑(CI.k i) : Int) - (1 : Int))))) && (decide (VT.o (MG.v (CI.h i (k0 + Int.toNat (↑(CI.k i) : Int)))) = VT.o (MG.v (CI.h i (k0 + Int.toNat ((↑(CI.k i) : Int) - (1 : Int)))))) && (decide (VT.p (MG.v (CI.h i (k0 + Int.toNat (↑(CI.k i) : Int)))) = VT.p (MG.v (CI.h i (k0 + Int.toNat ((↑(CI.k i) : Int) - (1 : Int)))))) && (decide (VT.per (MG.v (CI.h i (k0 + Int.toNat (↑(CI.k i) : Int)))) = VT.per (MG.v (CI.h i (k0 + Int.toNat ((↑(CI.k i) : Int) - (1 : Int)))))) && (decide (VT.day (MG.v (CI.h i (k0 + Int.toNat (↑(CI.k i) : Int)))) = VT.day (MG.v (CI.h i (k0 + Int.toNat ((↑(CI.k i) : Int) - (1 : Int)))))) && (decide (VT.st (MG.v (CI.h i (k0 + Int.toNat (↑(CI.k i) : Int)))) = VT.st (MG.v (CI.h i (k0 + Int.toNat ((↑(CI.k i) : Int) - (1 : Int)))))) && (decide (VT.pr (MG.v (CI.h i (k0 + Int.toNat (↑(CI.k i) : Int)))) = VT.pr (MG.v (CI.h i (k0 + Int.toNat ((↑(CI.k i) : Int) - (1 : Int)))))) && decide (VT.rep (MG.v (CI.h i (k0 + Int.toNat (↑(CI.k i) : Int)))) = VT.rep (MG.v (CI.h i (k0 + Int.toNat ((↑(CI.k i) : Int) - (1 : Int))))))))))) && (decide (DT.o (MG.d (CI.h i (k0 + Int.toNat (↑(CI.k i) : Int)))) = DT.o (MG.d (CI.h i (k0 + Int.toNat ((↑(CI.k i) : Int) - (1 : Int)))))) && (decide (DT.p (MG.d (CI.h i (k0 + Int.toNat (↑(CI.k i) : Int)))) = DT.p (MG.d (CI.h i (k0 + Int.toNat ((↑(CI.k i) : Int) - (1 : Int)))))) && (decide (DT.per (MG.d (CI.h i (k0 + Int.toNat (↑(CI.k i) : Int)))) = DT.per (MG.d (CI.h i (k0 + Int.toNat ((↑(CI.k i) : Int) - (1 : Int)))))) && (decide (DT.dev (MG.d (CI.h i (k0 + Int.toNat (↑(CI.k i) : Int)))) = DT.dev (MG.d (CI.h i (k0 + Int.toNat ((↑(CI.k i) : Int) - (1 : Int)))))) && decide (DT.num (MG.d (CI.h i (k0 + Int.toNat (↑(CI.k i) : Int)))) = DT.num (MG.d (CI.h i (k0 + Int.toNat ((↑(CI.k i) : Int) - (1 : Int))))))))))))))) (((0 : Int) ≤ (↑(CI.k i) : Int) ∧ (↑(CI.k i) : Int) < (↑(n - k0) : Int) ∧ 15 = 15) ∧ (k0 + Int.toNat (↑(CI.k i) : Int) < n ∧ 15 = 15) ∧ ((0 : Int) ≤ (↑(CI.w i) : Int) ∧ (↑(CI.w i) : Int) < (↑n : Int)) ∧ (List.length [AV.str (MG.dev (CI.h i (k0 + Int.toNat (↑(CI.k i) : Int)))), .int .i64 (MG.seq (CI.h i (k0 + Int.toNat (↑(CI.k i) : Int)))), .int .i64 (MG.kind (CI.h i (k0 + Int.toNat (↑(CI.k i) : Int)))), .str (VT.o (MG.v (CI.h i (k0 + Int.toNat (↑(CI.k i) : Int))))), .str (VT.p (MG.v (CI.h i (k0 + Int.toNat (↑(CI.k i) : Int))))), .int .i64 (VT.per (MG.v (CI.h i (k0 + Int.toNat (↑(CI.k i) : Int))))), .int .i64 (VT.day (MG.v (CI.h i (k0 + Int.toNat (↑(CI.k i) : Int))))), .int .i64 (VT.st (MG.v (CI.h i (k0 + Int.toNat (↑(CI.k i) : Int))))), .int .i64 (VT.pr (MG.v (CI.h i (k0 + Int.toNat (↑(CI.k i) : Int))))), .str (VT.rep (MG.v (CI.h i (k0 + Int.toNat (↑(CI.k i) : Int))))), .str (DT.o (MG.d (CI.h i (k0 + Int.toNat (↑(CI.k i) : Int))))), .str (DT.p (MG.d (CI.h i (k0 + Int.toNat (↑(CI.k i) : Int))))), .int .i64 (DT.per (MG.d (CI.h i (k0 + Int.toNat (↑(CI.k i) : Int))))), .str (DT.dev (MG.d (CI.h i (k0 + Int.toNat (↑(CI.k i) : Int))))), .int .i64 (DT.num (MG.d (CI.h i (k0 + Int.toNat (↑(CI.k i) : Int)))))] = 15 ∧ Int.toNat (↑(CI.w i) : Int) < n ∧ 15 = 15) ∧ inR .i64 ((↑(CI.w i) : Int) + (1 : Int)) ∧ inR .i64 ((↑(CI.k i) : Int) + (1 : Int)) ∧ ∃ (i' : CI), (TEq [(0, .own 0 n), (3, .int .i64 ((↑(CI.w i) : Int) + (1 : Int))), (4, .sub 0 15 k0 (n - k0)), (5, .int .i64 ((↑(CI.k i) : Int) + (1 : Int)))] [(0, .own 0 n), (3, .int .i64 (↑(CI.w i') : Int)), (4, .sub 0 15 k0 (n - k0)), (5, .int .i64 (↑(CI.k i') : Int))] ∧ RowsEq [(0, .row 56 15 n (fun (k : Nat) => if k = Int.toNat (↑(CI.w i) : Int) then [.str (MG.dev (CI.h i (k0 + Int.toNat (↑(CI.k i) : Int)))), .int .i64 (MG.seq (CI.h i (k0 + Int.toNat (↑(CI.k i) : Int)))), .int .i64 (MG.kind (CI.h i (k0 + Int.toNat (↑(CI.k i) : Int)))), .str (VT.o (MG.v (CI.h i (k0 + Int.toNat (↑(CI.k i) : Int))))), .str (VT.p (MG.v (CI.h i (k0 + Int.toNat (↑(CI.k i) : Int))))), .int .i64 (VT.per (MG.v (CI.h i (k0 + Int.toNat (↑(CI.k i) : Int))))), .int .i64 (VT.day (MG.v (CI.h i (k0 + Int.toNat (↑(CI.k i) : Int))))), .int .i64 (VT.st (MG.v (CI.h i (k0 + Int.toNat (↑(CI.k i) : Int))))), .int .i64 (VT.pr (MG.v (CI.h i (k0 + Int.toNat (↑(CI.k i) : Int))))), .str (VT.rep (MG.v (CI.h i (k0 + Int.toNat (↑(CI.k i) : Int))))), .str (DT.o (MG.d (CI.h i (k0 + Int.toNat (↑(CI.k i) : Int))))), .str (DT.p (MG.d (CI.h i (k0 + Int.toNat (↑(CI.k i) : Int))))), .int .i64 (DT.per (MG.d (CI.h i (k0 + Int.toNat (↑(CI.k i) : Int))))), .str (DT.dev (MG.d (CI.h i (k0 + Int.toNat (↑(CI.k i) : Int))))), .int .i64 (DT.num (MG.d (CI.h i (k0 + Int.toNat (↑(CI.k i) : Int)))))] else mgRow (CI.h i) k) false)] [(0, .row 56 15 n (mgRow (CI.h i')) false)]) ∧ P i') (inR .i64 ((↑(CI.k i) : Int) + (1 : Int)) ∧ ∃ (i' : CI), (TEq [(0, .own 0 n), (3, .int .i64 (↑(CI.w i) : Int)), (4, .sub 0 15 k0 (n - k0)), (5, .int .i64 ((↑(CI.k i) : Int) + (1 : Int)))] [(0, .own 0 n), (3, .int .i64 (↑(CI.w i') : Int)), (4, .sub 0 15 k0 (n - k0)), (5, .int .i64 (↑(CI.k i') : Int))] ∧ RowsEq [(0, .row 56 15 n (mgRow (CI.h i)) false)] [(0, .row 56 15 n (mgRow (CI.h i')) false)]) ∧ P i')) ((∀ (i : Nat), i < n → true = true) ∧ ∃ (O' : List (Nat × AObj)), RowsEq [(0, .row 56 15 n (mgRow (CI.h i)) false)] O' ∧ R (.exit 2) (St.mk [(0, .own 0 n), (3, .int .i64 (↑(CI.w i) : Int))] O' 1 []))) := by kernel_rfl

theorem lst_snocM (g : Nat → MG) (n : Nat) : lst g (n + 1) = lst g n ++ [g n] := by simp [lst, List.range_succ]
theorem eqM_iff {a b : MG} : eqM a b = true ↔ a = b := by
  unfold eqM
  simp only [Bool.and_eq_true, decide_eq_true_eq]
  constructor
  · rintro ⟨h1, h2, h3, ⟨h4, h5, h6, h7, h8, h9, h10⟩, h11, h12, h13, h14, h15⟩
    obtain ⟨dev, seq, kind, ⟨o, p, per, day, st, pr, rep⟩, ⟨o', p', per', dev', num⟩⟩ := a
    obtain ⟨_, _, _, ⟨_, _, _, _, _, _, _⟩, ⟨_, _, _, _, _⟩⟩ := b
    simp_all
  · rintro rfl
    simp
theorem ddL_succ (g : Nat → MG) (m : Nat) : ddL g (m + 1) = ddL g m ++ bif keepF g m then [g m] else [] := by
  unfold ddL
  rw [List.range_succ, List.filter_append, List.map_append]
  cases h : keepF g m <;> simp [h]
theorem allK_lst (g : Nat → MG) : ∀ {k : Nat}, allK g k = true → ddL g k = lst g k
  | 0, _ => rfl
  | k + 1, h => by
    rw [allK, Bool.and_eq_true] at h
    rw [ddL_succ, allK_lst g h.1, h.2, lst_snocM]; rfl
theorem keepF_pos {g : Nat → MG} {k : Nat} (h : 0 < k) : keepF g k = !eqM (g k) (g (k - 1)) := by
  unfold keepF
  rw [decide_eq_false (by omega)]; rfl

theorem ci_loop (hP : C.P = Tryz.prog) (g : Nat → MG) (n k0 : Nat) : LoopOK C 1 61 (loopC Tryz.f75 9) (L_ci g n k0) := by
  have _ : C.Loose := inferInstance
  rintro st Q ⟨h0, ⟨hk0, hk1, hn⟩, hall, hkeep, hQ⟩
  refine LoopOK.mk (prg hP) [] 0 .nil [0, 3, 4, 5] [0, 3] [] (S_ci g n k0) (fun i => 1 ≤ i.k ∧ i.k ≤ n - k0 ∧ i.w < k0 + i.k ∧ lst i.h i.w = ddL g (k0 + i.k) ∧ ∀ j, i.w ≤ j → i.h j = g j) (fun i => n - k0 - i.k) ⟨1, k0, g⟩
    ⟨Nat.le_refl _, by show 1 ≤ n - k0; omega, Nat.lt_succ_self _, ?_, fun _ _ => rfl⟩ h0 (fun i hi => ?_) (fun i => ⟨fun _ _ => rfl, trivial⟩)
  · show lst g k0 = ddL g (k0 + 1)
    rw [ddL_succ, hkeep, allK_lst g hall]; simp
  obtain ⟨i1, i2, i3, i4, i5⟩ := hi
  obtain ⟨k, w, h⟩ := i
  dsimp only at i1 i2 i3 i4 i5
  rw [nf_ci_round]
  dsimp only
  rw [Int.toNat_natCast, Int.toNat_natCast]
  have e1 : ((k : Int) - 1).toNat = k - 1 := by omega
  rw [e1]
  refine condP_dec (fun h1 => ?_) (fun h1 => ?_)
  · have hk : k < n - k0 := by omega
    have r1 : h (k0 + k) = g (k0 + k) := i5 _ (by omega)
    have r2 : h (k0 + (k - 1)) = g (k0 + (k - 1)) := i5 _ (by omega)
    have hkp : keepF g (k0 + k) = !eqM (g (k0 + k)) (g (k0 + (k - 1))) := by
      rw [keepF_pos (by omega)]
      have : k0 + k - 1 = k0 + (k - 1) := by omega
      rw [this]
    have hkp : keepF g (k0 + k) = !eqM (h (k0 + k)) (h (k0 + (k - 1))) := by rw [r1, r2]; exact hkp
    refine ⟨⟨by omega, by omega, rfl⟩, ⟨by omega, rfl⟩, by simp only [inR]; omega, ⟨by omega, by omega, rfl⟩, ⟨by omega, rfl⟩, condP_intro (fun q => ?_) (fun q => ?_)⟩
    · have q : keepF g (k0 + k) = true := hkp.trans q
      refine ⟨⟨by omega, by omega, rfl⟩, ⟨by omega, rfl⟩, ⟨by omega, by omega⟩, ⟨rfl, by omega, rfl⟩, by simp only [inR]; omega, by simp only [inR]; omega, ⟨k + 1, w + 1, fun j => if j = w then h (k0 + k) else h j⟩, ⟨rfl, ⟨rfl, rfl, rfl, rfl, rfl, fun j hj => ?_⟩, trivial⟩, ⟨Nat.le_add_left _ _, hk, ?_, ?_, fun j hj => ?_⟩, ?_⟩
      · unfold mgRow
        by_cases e : j = w
        · simp only [e, if_true]
        · simp only [e, if_false]
      · show w + 1 < k0 + (k + 1)
        omega
      · show lst (fun j => if j = w then h (k0 + k) else h j) (w + 1) = ddL g (k0 + k + 1)
        have e : lst (fun j => if j = w then h (k0 + k) else h j) w = lst h w := List.map_congr_left fun j hj => by
          have := List.mem_range.1 hj
          rw [if_neg (by omega)]
        rw [lst_snocM, ddL_succ, q, e, i4, if_pos rfl, r1]; rfl
      · have hj : w + 1 ≤ j := hj
        show (if j = w then h (k0 + k) else h j) = g j
        rw [if_neg (by omega)]
        exact i5 j (by omega)
      · show n - k0 - (k + 1) < n - k0 - k
        omega
    · have q : keepF g (k0 + k) = false := hkp.trans q
      refine ⟨by simp only [inR]; omega, ⟨k + 1, w, h⟩, ⟨rfl, ⟨rfl, rfl, rfl, rfl, rfl, fun _ _ => rfl⟩, trivial⟩, ⟨Nat.le_add_left _ _, hk, ?_, ?_, i5⟩, ?_⟩
      · show w < k0 + (k + 1)
        omega
      · show lst h w = ddL g (k0 + k + 1)
        rw [ddL_succ, q, i4]; simp
      · show n - k0 - (k + 1) < n - k0 - k
        omega
  · have : k = n - k0 := by omega
    subst this
    have e : k0 + (n - k0) = n := by omega
    rw [e] at i4
    exact ⟨fun _ _ => rfl, _, rowsEqR _, hQ w h (by omega) i4⟩
theorem cp_loop (hP : C.P = Tryz.prog) (g : Nat → MG) (n : Nat) : LoopOK C 1 61 (loopC Tryz.f75 4) (L_cp g n) := by
  rintro st Q ⟨h0, hn2, hn, hQ, hR⟩
  refine LoopOK.mkI (prg hP) [] (fun k => [(9, L_ci g n k)]) 0 .nil (fun k => [(loopC Tryz.f75 9, L_ci g n k)]) (fun k => by kernel_rfl) (fun k => ⟨ci_loop hP g n k, trivial⟩) [0, 3] [0] [2] (S_cp g n) (fun k => 1 ≤ k ∧ k ≤ n ∧ allK g k = true) (fun k => n - k) 1
    ⟨Nat.le_refl _, by omega, rfl⟩ h0 (fun k hk => ?_) (fun k => ⟨fun _ _ => rfl, trivial⟩)
  obtain ⟨i1, i2, i3⟩ := hk
  have e1 : ((k : Int) - 1).toNat = k - 1 := by omega
  have hkp : keepF g k = !eqM (g k) (g (k - 1)) := keepF_pos (by omega)
  rw [nf_cp_round, Int.toNat_natCast, e1]
  refine condP_dec (fun h1 => ⟨⟨by omega, by omega⟩, ⟨by omega, rfl⟩, by simp only [inR]; omega, ⟨by omega, by omega⟩, ⟨by omega, rfl⟩, condP_intro (fun q => ?_) (fun q => ?_)⟩) (fun h1 => ?_)
  · have q : eqM (g k) (g (k - 1)) = true := q
    rw [q] at hkp
    refine ⟨⟨by omega, by omega⟩, ⟨rfl, ⟨rfl, rfl, rfl, rfl, rfl, fun _ _ => rfl⟩, trivial⟩, ⟨i1, by omega, hn⟩, i3, hkp, fun w h hw hl => ?_⟩
    rw [Int.toNat_natCast]
    exact ⟨⟨by omega, by omega⟩, hw, ⟨by omega, by omega⟩, fun _ _ => rfl, _, rowsEqR _, hR w h hl⟩
  · have q : eqM (g k) (g (k - 1)) = false := q
    rw [q] at hkp
    refine ⟨by simp only [inR]; omega, k + 1, ⟨rfl, ⟨rfl, rfl, rfl, rfl, rfl, fun _ _ => rfl⟩, trivial⟩, ⟨by omega, by omega, ?_⟩, by omega⟩
    rw [allK, i3, hkp]; rfl
  · have : k = n := by omega
    subst this
    exact ⟨fun _ _ => rfl, _, rowsEqR _, hQ i3⟩
theorem cmpct_ok (hP : C.P = Tryz.prog) : RSpecOK C 75 R_cmpct := by
  rintro args objs R h
  unfold R_cmpct at h
  split at h
  · rename_i n t m f fr
    obtain ⟨rfl, rfl, rfl, hn, hf, hR⟩ := h
    generalize mgOf f = g at *
    subst hf
    refine RSpecOK.wpL (prg hP) [] [(4, L_cp g n)] 0 .nil (hP ▸ Tryz.func75) rfl rfl rfl [(loopC Tryz.f75 4, L_cp g n)] (by kernel_rfl) ⟨cp_loop hP g n, trivial⟩ ?_
    rw [nf_cp]
    refine condP_dec (fun h1 => ⟨fun _ _ => rfl, _, rowsEqR _, hR n g ?_⟩) (fun h1 => ⟨⟨rfl, ⟨rfl, rfl, rfl, rfl, rfl, fun _ _ => rfl⟩, trivial⟩, by omega, hn, fun ha => ⟨fun _ _ => rfl, _, rowsEqR _, hR n g (allK_lst g ha).symm⟩, fun w h hl => ⟨fun _ _ => rfl, _, rowsEqR _, hR w h hl⟩⟩)
    have h1 : n < 2 := by omega
    match n, h1 with
    | 0, _ => rfl
    | 1, _ => rfl
  · exact h.elim
end Go.Eng
/-
  DERIVED: THE SHELF's CONTRACTS AT THIS DUMP, IN PLAIN WORDS (tools/lay-plain.mjs out of 'TryzSortL.lean', which tools/lay-shelf.mjs wrote): THE SAME DECLARATIONS UNDER THE SAME NAMES: 'import', 'namespace', 'open', 'def', 'theorem' AND NOTHING ELSE: no command of the shelf's: FOR A HAND-IN. Each laying: the table of numbers ('.._ren') and one theorem, a field a fact of the dump's own or the kernel's comparison; each contract: ONE APPLICATION.
-/
namespace Go.Proofs
open Go.Shelf
def Tryz.sort73_ren : Go.Shelf.Ren := ⟨fun | 6 => 73 | 15 => 88 | 14 => 101 | 28 => 118 | 29 => 119 | 20 => 128 | 21 => 129 | 22 => 130 | 23 => 131 | 24 => 132 | 25 => 133 | 26 => 134 | 27 => 135 | 46 => 147 | 47 => 138 | 48 => 139 | 49 => 148 | 50 => 149 | 57 => 163 | n => n, fun | 22 => 58 | 24 => 56 | 25 => 109 | 3 => 3 | 39 => 120 | 0 => 0 | 53 => 143 | 55 => 91 | 4 => 4 | 46 => 137 | 45 => 136 | 50 => 115 | 5 => 5 | 9 => 9 | 66 => 155 | 70 => 159 | 76 => 169 | 77 => 170 | n => n, fun | n => n⟩
theorem Tryz.sort73 : Go.Proofs.SlLaysF0.n6 Tryz.prog Tryz.sort73_ren := {
  mixed := by kernel_rfl
  f6 := ⟨Tryz.f73.name, by decide, Tryz.func73.trans (congrArg some (by kernel_rfl))⟩
  f14 := ⟨Tryz.f101.name, by decide, Tryz.func101.trans (congrArg some (by kernel_rfl))⟩
  f15 := Tryz.func88.trans (congrArg some (by kernel_rfl))
  f20 := ⟨Tryz.f128.name, by decide, Tryz.func128.trans (congrArg some (by kernel_rfl))⟩
  f21 := ⟨Tryz.f129.name, by decide, Tryz.func129.trans (congrArg some (by kernel_rfl))⟩
  f22 := ⟨Tryz.f130.name, by decide, Tryz.func130.trans (congrArg some (by kernel_rfl))⟩
  f23 := ⟨Tryz.f131.name, by decide, Tryz.func131.trans (congrArg some (by kernel_rfl))⟩
  f24 := ⟨Tryz.f132.name, by decide, Tryz.func132.trans (congrArg some (by kernel_rfl))⟩
  f25 := ⟨Tryz.f133.name, by decide, Tryz.func133.trans (congrArg some (by kernel_rfl))⟩
  f26 := ⟨Tryz.f134.name, by decide, Tryz.func134.trans (congrArg some (by kernel_rfl))⟩
  f27 := ⟨Tryz.f135.name, by decide, Tryz.func135.trans (congrArg some (by kernel_rfl))⟩
  f28 := Tryz.func118.trans (congrArg some (by kernel_rfl))
  f29 := Tryz.func119.trans (congrArg some (by kernel_rfl))
  f46 := ⟨Tryz.f147.name, by decide, Tryz.func147.trans (congrArg some (by kernel_rfl))⟩
  f47 := Tryz.func138.trans (congrArg some (by kernel_rfl))
  f48 := Tryz.func139.trans (congrArg some (by kernel_rfl))
  f49 := ⟨Tryz.f148.name, by decide, Tryz.func148.trans (congrArg some (by kernel_rfl))⟩
  f50 := ⟨Tryz.f149.name, by decide, Tryz.func149.trans (congrArg some (by kernel_rfl))⟩
  f57 := ⟨Tryz.f163.name, by decide, Tryz.func163.trans (congrArg some (by kernel_rfl))⟩
  t0 := Tryz.underlying0
  a0 := Tryz.isAgg0
  z0 := Tryz.sizeOf0
  v0 := Tryz.zeroValue0
  t3 := Tryz.underlying3
  a3 := Tryz.isAgg3
  z3 := Tryz.sizeOf3
  v3 := Tryz.zeroValue3
  t4 := Tryz.underlying4
  a4 := Tryz.isAgg4
  z4 := Tryz.sizeOf4
  v4 := Tryz.zeroValue4
  t5 := Tryz.underlying5
  a5 := Tryz.isAgg5
  z5 := Tryz.sizeOf5
  v5 := Tryz.zeroValue5
  t9 := Tryz.underlying9
  a9 := Tryz.isAgg9
  z9 := Tryz.sizeOf9
  v9 := Tryz.zeroValue9
  t22 := Tryz.underlying58
  a22 := Tryz.isAgg58
  z22 := Tryz.sizeOf58
  v22 := Tryz.zeroValue58
  t25 := Tryz.underlying109
  a25 := Tryz.isAgg109
  z25 := Tryz.sizeOf109
  v25 := Tryz.zeroValue109
  t39 := Tryz.underlying120
  a39 := Tryz.isAgg120
  z39 := Tryz.sizeOf120
  v39 := Tryz.zeroValue120
  t45 := Tryz.underlying136
  a45 := Tryz.isAgg136
  z45 := Tryz.sizeOf136
  v45 := Tryz.zeroValue136
  t46 := Tryz.underlying137
  a46 := Tryz.isAgg137
  z46 := Tryz.sizeOf137
  v46 := Tryz.zeroValue137
  t50 := Tryz.underlying115
  a50 := Tryz.isAgg115
  z50 := Tryz.sizeOf115
  v50 := Tryz.zeroValue115
  t53 := Tryz.underlying143
  a53 := Tryz.isAgg143
  z53 := Tryz.sizeOf143
  v53 := Tryz.zeroValue143
  t55 := Tryz.underlying91
  a55 := Tryz.isAgg91
  z55 := Tryz.sizeOf91
  v55 := Tryz.zeroValue91
  t66 := Tryz.underlying155
  a66 := Tryz.isAgg155
  z66 := Tryz.sizeOf155
  v66 := Tryz.zeroValue155
  t70 := Tryz.underlying159
  a70 := Tryz.isAgg159
  z70 := Tryz.sizeOf159
  v70 := Tryz.zeroValue159
  t76 := Tryz.underlying169
  a76 := Tryz.isAgg169
  z76 := Tryz.sizeOf169
  v76 := Tryz.zeroValue169
  t77 := Tryz.underlying170
  a77 := Tryz.isAgg170
  z77 := Tryz.sizeOf170
  v77 := Tryz.zeroValue170 }
end Go.Proofs
/- The engine, part 36: sorting by the library's contract. -/
namespace Go.Eng
open Go.Proofs Go.RowKit Go.Sort

def valA : AV → Value
  | .str l => .string ⟨l.toArray⟩
  | .int k n => .int k n
  | .bool b => .bool b
  | _ => default
def plainA : AV → Bool
  | .str _ => true
  | .int _ _ => true
  | .bool _ => true
  | _ => false
theorem V_plain {w : World} {M : Nat → Prop} {bs : Nat → Option Hd} {v : Value} {u : AV} (hp : plainA u = true) (h : V w M bs v u) : v = valA u := by
  cases u <;> simp only [plainA, Bool.false_eq_true] at hp
  · cases h; rfl
  · cases h; rfl
  · exact h.str_iff
theorem plain_V {w : World} {M : Nat → Prop} {bs : Nat → Option Hd} {u : AV} (hp : plainA u = true) : V w M bs (valA u) u := by
  cases u <;> simp only [plainA, Bool.false_eq_true] at hp
  · exact .bool
  · exact .int
  · exact .str rfl
theorem plain_one {u : AV} (hp : plainA u = true) : (valA u).oneCell' = true := by
  cases u <;> simp only [plainA, Bool.false_eq_true] at hp <;> rfl

/-- The program alone; the orders drawn are counted. -/
def Ctx.bare (P : Program) (h : P.follows .mixedOrders = true) : Ctx := ⟨P, 0, fun _ => True, h, fun _ _ _ h => h, true⟩

theorem grow_of {w w' : World} (h1 : w'.os = w.os) (h2 : w'.tape = w.tape) (h3 : w'.output = w.output) (h4 : w.heap.size ≤ w'.heap.size) (h5 : ∀ b, b < w.heap.size → w'.heap[b]? = w.heap[b]?) (h6 : w.drawn ≤ w'.drawn) :
    ∃ q os, w' = grow (w.drewN q) os := by
  refine ⟨w'.drawn - w.drawn, w'.heap.extract w.heap.size w'.heap.size, ?_⟩
  obtain ⟨hp, tp, dr, os, out⟩ := w
  obtain ⟨hp', tp', dr', os', out'⟩ := w'
  simp only at h1 h2 h3 h4 h5 h6
  subst h1; subst h2; subst h3
  simp only [grow, World.drewN, World.mk.injEq, and_true, true_and]
  refine ⟨?_, by omega⟩
  apply Array.ext_getElem?
  intro i
  rw [Array.getElem?_append]
  by_cases h : i < hp.size
  · rw [if_pos h, h5 i h]
  · rw [if_neg h, Array.getElem?_extract]
    by_cases h' : i < hp'.size
    · rw [if_pos (by omega)]; congr 1; omega
    · rw [if_neg (by omega), Array.getElem?_eq_none (by omega)]

/-- A call with no objects that answers plain data: the world only grows. -/
theorem ADet.grown {P : Program} {hm : P.follows .mixedOrders = true} {f : FuncId} {args : List AV} {u : AV} (h : ADet (Ctx.bare P hm) f args [] u []) (hu : plainA u = true) {w : World} {cargs : List Value} (hlen : cargs.length = args.length)
    (hV : ∀ (j : Nat) v x, cargs[j]? = some v → args[j]? = some x → V w (fun _ => False) nob v x) : Calls P f cargs.toArray w fun e w' => e = .returned (valA u) ∧ ∃ q os, w' = grow (w.drewN q) os := by
  have no : ∀ r, lkL [] r = none := fun r => by cases r <;> rfl
  have nm : ∀ b', ¬ mutB (lkL []) nob b' := by
    rintro b' ⟨r, o, c, ho, _⟩
    rw [no r] at ho; cases ho
  have hw : WRep (Ctx.bare P hm) ⟨w, 0, nob, fun _ => False, fun _ => False⟩ (lkL []) nob w := {
    obj := fun r o ho => by rw [no r] at ho; cases ho
    sep := fun r r' o o' b c c' ho => by rw [no r] at ho; cases ho
    out := fun b hb => absurd hb (nm b)
    frz := fun r t sz n f b c ho => by rw [no r] at ho; cases ho
    high := fun b hb => Nat.zero_le _
    lt := fun r b c hb => by simp [nob] at hb
    outlt := fun b hb => hb.elim
    keep := fun b _ _ => rfl
    old := fun b hb => absurd hb (nm b)
    size := Nat.le_refl _
    pre := fun r x hr => absurd hr (Nat.not_lt_zero r)
    os := rfl
    tape := .refl _ _
    output := rfl
    laid := trivial
    gle := Nat.zero_le _ }
  refine (h.2 ⟨w, 0, nob, fun _ => False, fun _ => False⟩ nob w cargs rfl rfl rfl hw (fun _ _ => rfl) hlen (fun j v u hv hu => (hV j v u hv hu).step_ (fun b _ _ hb => ?_) (fun _ _ _ => rfl) (Nat.le_refl _) nob (fun _ _ h => h))).mono ?_
  · rcases hb with hb | hb
    · exact hb
    · exact nm b hb
  · rintro e w' ⟨v, u', O', bs', rfl, ⟨rfl, rfl⟩, hw', hV', _⟩
    rw [V_plain hu hV']
    exact ⟨rfl, grow_of hw'.os hw'.tape.tape hw'.output hw'.size (fun i hi => hw'.keep i hi (fun h => h)) (hw'.tape.drawn rfl)⟩

section
variable {α : Type} [Inhabited α]
def encV (enc : α → List AV) (x : α) : List Value := (enc x).map valA

theorem arr_get (n : Nat) (f : Nat → α) {i : Nat} (hi : i < n) : (((List.range n).map f).toArray)[i]! = f i := by simp [hi]

/-- The library's sort, at a row of our own of plain data. -/
theorem ACalls.sortK {C : Ctx} (enc : α → List AV) (k : Nat) (hk : ∀ x, (enc x).length = k) (hp : ∀ x u, u ∈ enc x → plainA u = true) (cf : α → α → Int) {fS g : FuncId} {t : TypeId} (heS : Enters C.P fS)
    (hS : ∀ (blk cap : Nat) (d : Array α) (w : World), CmpLays C.P g #[] (encV enc) k cf blk 0 d.size w → HoldsK (encV enc) k w blk 0 d → blk < w.heap.size → d.size < 4611686018427387904 →
      Calls C.P fS #[.slice (some ⟨blk, 0, none⟩) d.size cap, .func (.func g) #[] #[]] w fun e w' => e = .returned (.tuple #[]) ∧ ∃ d' n os, PermIn 0 d.size d d' ∧ SortedIn (ltOf cf) 0 d.size d' ∧ w' = sortWorldK (encV enc) k w blk 0 n d' os)
    (hN : ∀ (p : Option Addr) (cap : Nat) (fv : Value) (w : World), Calls C.P fS #[.slice p 0 cap, fv] w fun e w' => e = .returned (.tuple #[]) ∧ w' = w)
    (hc : ∀ x y, ADet (Ctx.bare C.P C.mixed) g [.agg (enc x), .agg (enc y)] [] (.int .i64 (cf x y)) [])
    {n : Nat} (f : Nat → α) (hn : n < 4611686018427387904) :
    ACalls C fS [.own 0 n, .func g []] [.row t k n (fun i => enc (f i)) false] fun u O => u = .tuple [] ∧ ∃ f' : Nat → α, ((List.range n).map f').Perm ((List.range n).map f) ∧ (∀ i j, i < j → j < n → ¬ cf (f' j) (f' i) < 0) ∧
      O = [(0, .row t k n (fun i => enc (f' i)) false)] := by
  refine ⟨heS, fun E bs w cargs h1 h2 h3 hW h5 h6 h7 => ?_⟩
  obtain ⟨a, b, rfl⟩ : ∃ a b, cargs = [a, b] := by
    match cargs, h6 with
    | [a, b], _ => exact ⟨a, b, rfl⟩
  have V0 := h7 0 _ _ rfl rfl
  have V1 := h7 1 _ _ rfl rfl
  generalize hu : AV.func g [] = uf at V1
  cases V1 <;> cases hu
  rename_i caps hl hv
  obtain rfl : caps = #[] := Array.eq_empty_of_size_eq_zero hl
  have hO : lkL [AObj.row t k n (fun i => enc (f i)) false] = lk [(0, .row t k n (fun i => enc (f i)) false)] := by
    funext i
    cases i with
    | zero => rfl
    | succ i => rw [lk_cons, if_neg (by show ¬ 0 = i + 1; omega)]; simp [lkL, lk]
  have hbs : ∀ r, 1 + 16 ≤ r → lk [(0, AObj.row t k n (fun i => enc (f i)) false)] r = none ∧ bs r = none := fun r hr => ⟨by rw [lk_cons, if_neg (by show ¬ 0 = r; omega)]; rfl, h5 r (by show 1 ≤ r; omega)⟩
  rw [hO] at hW V0
  generalize huo : AV.own 0 n = uo at V0
  cases V0 <;> cases huo
  case func.refl.ownnil.refl A x1 x2 =>
    have hn0 : n = 0 := by assumption
    clear x1 x2
    subst hn0
    refine (hN A 0 _ w).mono ?_
    rintro e w' ⟨rfl, rfl⟩
    refine ⟨_, .tuple [], [(0, .row t k 0 (fun i => enc (f i)) false)], bs, rfl, ⟨rfl, f, .refl _, fun i j _ hj => absurd hj (Nat.not_lt_zero j), rfl⟩, hW, .tuple rfl (fun j v u hv hu => by simp at hu), hbs⟩
  case func.refl.own.refl bk c x1 x2 x3 =>
    have hb : bs 0 = some (.blk bk c) := by assumption
    clear x1 x2 x3
    have hrow := hW.obj 0 _ rfl
    rcases hrow with ⟨h, _⟩ | ⟨bk', c', vs, hb', hh, hnc', hcm', hsz, hln, hone, hval⟩
    · rw [h] at hb; cases hb
    obtain ⟨rfl, rfl⟩ : bk' = bk ∧ c' = c := by
      rw [hb'] at hb; injection hb with hb; injection hb with e1 e2; exact ⟨e1, e2⟩
    have hblk : bk' < w.heap.size := hW.lt _ _ _ hb'
    have hle : n * k ≤ vs.size := by rw [hsz]; exact Nat.mul_le_mul_right k hnc'
    have hdiv : ∀ q, q < n * k → q / k < n ∧ q % k < k ∧ q / k * k + q % k = q := fun q hq => by
      have k0 : 0 < k := by
        rcases Nat.eq_zero_or_pos k with h | h
        · subst h; simp at hq
        · exact h
      exact ⟨Nat.div_lt_of_lt_mul (by rwa [Nat.mul_comm]), Nat.mod_lt _ k0, Nat.div_add_mod' q k⟩
    have hds : (((List.range n).map f).toArray).size = n := by simp
    have hlen : ∀ x, (encV enc x).length = k := fun x => by simp [encV, hk]
    have hH : HoldsK (encV enc) k w bk' 0 ((List.range n).map f).toArray := by
      intro q hq
      rw [size_flatK, hds] at hq
      obtain ⟨q1, q2, q3⟩ := hdiv q hq
      rw [get_flatK _ _ _ _ (by rw [hds]; exact hq), arr_get n f q1, Nat.zero_add]
      have hlt : q < vs.size := by omega
      refine ⟨?_, ?_⟩
      · rw [cell_of_row w bk' q vs t (0, 0) hh]
        have hg : vs[q / k * k + q % k]? = some vs[q] := by rw [q3]; exact Array.getElem?_eq_getElem hlt
        have hu : (enc (f (q / k)))[q % k]? = some ((enc (f (q / k)))[q % k]'(by rw [hk]; exact q2)) := List.getElem?_eq_getElem _
        have := V_plain (hp _ _ (List.mem_of_getElem? hu)) (hval (q / k) q1 (q % k) _ _ q2 hg hu)
        show vs[q]? = some (((enc (f (q / k))).map valA)[q % k]!)
        rw [Array.getElem?_eq_getElem hlt, this]
        congr 1
        simp [hk, q2]
      · simp [World.frozen?, hh]
    have hC : CmpLays C.P g #[] (encV enc) k cf bk' 0 ((List.range n).map f).toArray.size w := by
      intro m os dk _ x y
      have := ADet.grown (hc x y) rfl (w := sortWorldK (encV enc) k w bk' 0 m dk os) (cargs := [.agg (encV enc x).toArray, .agg (encV enc y).toArray]) rfl (fun j v u hv hu => ?_)
      · simpa [valA] using this
      have ag : ∀ z : α, V (sortWorldK (encV enc) k w bk' 0 m dk os) (fun _ => False) nob (.agg (encV enc z).toArray) (.agg (enc z)) := fun z => by
        refine .agg (by simp [encV]) (fun j v hv => ?_) (fun j v u hv hu => ?_)
        · simp only [List.getElem?_toArray, encV, List.getElem?_map, Option.map_eq_some_iff] at hv
          obtain ⟨u, hu, rfl⟩ := hv
          exact plain_one (hp _ _ (List.mem_of_getElem? hu))
        · simp only [List.getElem?_toArray, encV, List.getElem?_map, hu, Option.map_some, Option.some.injEq] at hv
          subst hv
          exact plain_V (hp _ _ (List.mem_of_getElem? hu))
      match j with
      | 0 => obtain rfl := Option.some.inj hv; obtain rfl := Option.some.inj hu; exact ag x
      | 1 => obtain rfl := Option.some.inj hv; obtain rfl := Option.some.inj hu; exact ag y
      | j + 2 => simp at hv
    have hcall := hS bk' c' ((List.range n).map f).toArray w hC hH hblk (by rw [hds]; exact hn)
    rw [hds] at hcall
    refine hcall.mono ?_
    rintro e w' ⟨rfl, d', m, os, hperm, hsort, rfl⟩
    have hd' : d'.size = n := hperm.1.trans hds
    have hlist : d'.toList = (List.range n).map (fun i => d'[i]!) := by
      apply List.ext_getElem?
      intro i
      rw [List.getElem?_map, Array.getElem?_toList]
      by_cases hi : i < n
      · rw [List.getElem?_range hi, Option.map_some, getElem!_pos d' i (by omega), Array.getElem?_eq_getElem (by omega)]
      · rw [Array.getElem?_eq_none (by omega), List.getElem?_eq_none (by simp; omega)]; rfl
    have hnb : ∀ (o' : AObj), lk [(0, o')] = up (lk [(0, AObj.row t k n (fun i => enc (f i)) false)]) 0 o' := fun o' => by
      funext i
      rw [lk_cons]
      by_cases h : (0 : Nat) = i
      · rw [if_pos h, ← h, up_same]
      · rw [if_neg h, up_other _ _ _ h, lk_cons, if_neg h]
    have hheap : ∀ b, b < w.heap.size → b ≠ bk' → (sortWorldK (encV enc) k w bk' 0 m d' os).heap[b]? = w.heap[b]? := fun b hb hne => by
      show ((putRowK (encV enc) k (Sort.ahead w m) bk' 0 d').heap ++ os)[b]? = _
      rw [Array.getElem?_append_left (by show b < (putRowK _ _ _ _ _ _).heap.size; rw [show (putRowK (encV enc) k (Sort.ahead w m) bk' 0 d').heap.size = w.heap.size from by simp [putRowK]]; exact hb)]
      simp [putRowK, putRow, mapBlock, Array.getElem?_modify, Ne.symm hne]
    have hsize : w.heap.size ≤ (sortWorldK (encV enc) k w bk' 0 m d' os).heap.size := by simp [sortWorldK, grow, putRowK]
    have hnew : (sortWorldK (encV enc) k w bk' 0 m d' os).heap[bk']? = some (.cells (putCells id 0 (flatK (encV enc) k d') vs) t (0, 0)) := by
      show ((putRowK (encV enc) k (Sort.ahead w m) bk' 0 d').heap ++ os)[bk']? = _
      rw [Array.getElem?_append_left (by rw [show (putRowK (encV enc) k (Sort.ahead w m) bk' 0 d').heap.size = w.heap.size from by simp [putRowK]]; exact hblk)]
      simp [putRowK, putRow, mapBlock, Array.getElem?_modify, hh, onCells]
    have hcell : ∀ i, i < n → ∀ j, j < k → ∀ v, (putCells id 0 (flatK (encV enc) k d') vs)[i * k + j]? = some v → ∃ u, (enc d'[i]!)[j]? = some u ∧ v = valA u := fun i hi j hj v hv => by
      have hlt : i * k + j < n * k := by
        have := Nat.mul_le_mul_right k (show i + 1 ≤ n from hi)
        rw [Nat.add_mul, Nat.one_mul] at this; omega
      have hlt2 : i * k + j < vs.size := by omega
      simp only [putCells, Array.getElem?_mapIdx, Array.getElem?_eq_getElem hlt2, Option.map_some, size_flatK, hd', Nat.zero_le, Nat.zero_add, hlt, and_self, if_true, Nat.sub_zero, Option.some.injEq, id] at hv
      rw [get_flatK _ _ _ _ (by rw [hd']; exact hlt)] at hv
      have e1 : (i * k + j) / k = i := (blk_iff k i _ (by omega)).1 ⟨by omega, by omega⟩
      have e2 : (i * k + j) % k = j := by rw [Nat.mod_eq_sub_div_mul, e1]; omega
      rw [e1, e2] at hv
      refine ⟨(enc d'[i]!)[j]'(by rw [hk]; exact hj), List.getElem?_eq_getElem _, ?_⟩
      rw [← hv]
      simp [encV, hk, hj]
    refine ⟨_, .tuple [], [(0, .row t k n (fun i => enc d'[i]!) false)], bs, rfl, ⟨rfl, fun i => d'[i]!, ?_, fun i j hij hj => ?_, rfl⟩, ?_, .tuple rfl (fun j v u hv hu => by simp at hu), fun r hr => ⟨by rw [lk_cons, if_neg (by show ¬ 0 = r; exact fun h => by subst h; simp at hr)]; rfl, (hbs r hr).2⟩⟩
    · have := hperm.2.2
      have e1 : d'.extract 0 n = d' := by rw [← hd']; exact Array.extract_size
      have e2 : ((List.range n).map f).toArray.extract 0 n = ((List.range n).map f).toArray := by
        have := Array.extract_size (xs := ((List.range n).map f).toArray)
        rwa [hds] at this
      rw [e1, e2] at this
      rw [← hlist]; simpa using this
    · have := hsort i j (Nat.zero_le _) hij hj
      simpa [ltOf] using this
    · have hmb : ∀ b, mutB (lk [(0, AObj.row t k n (fun i => enc d'[i]!) false)]) bs b → mutB (lk [(0, AObj.row t k n (fun i => enc (f i)) false)]) bs b := by
        rintro b ⟨r, o, c2, ho, hm, hb2⟩
        rw [lk_cons] at ho
        by_cases h : (0 : Nat) = r
        · subst h; exact ⟨0, _, c2, rfl, rfl, hb2⟩
        · rw [if_neg h] at ho; cases ho
      refine (hW.next (w' := sortWorldK (encV enc) k w bk' 0 m d' os) (fun b => b = bk') (fun i h hi => hi) (fun i b c' hi => .inl hi) (fun b hb2 => by subst hb2; exact ⟨0, _, c', rfl, rfl, hb'⟩) (fun b hb2 hne => hheap b hb2 hne) hsize (fun b hb2 => .inl (hmb b hb2)) (fun hSt i o' ho => ?_)
        (fun i j o1 o2 b c1 c2 hi hj m1 m2 bi bj => ?_) (fun i t' sz' n' f' b c2 ho hb2 => ?_) rfl ⟨rfl, fun _ => Nat.le_add_right _ _⟩ rfl).2
      · rw [lk_cons] at ho
        by_cases h : (0 : Nat) = i
        · subst h
          rw [if_pos rfl] at ho
          injection ho with ho; subst ho
          refine .inr (.inr ⟨bk', c', _, hb', hnew, hnc', hcm', by simp [putCells, hsz], fun i hi => hk _, fun i hi j hj v hv => ?_, fun i hi j v u hj hv hu => ?_⟩)
          · obtain ⟨u, hu, rfl⟩ := hcell i hi j hj v hv
            exact plain_one (hp _ _ (List.mem_of_getElem? hu))
          · obtain ⟨u', hu', rfl⟩ := hcell i hi j hj v hv
            have hu : (enc d'[i]!)[j]? = some u := hu
            rw [hu'] at hu
            injection hu with hu; subst hu
            exact plain_V (hp _ _ (List.mem_of_getElem? hu'))
        · rw [if_neg h] at ho; cases ho
      · rw [lk_cons] at hi hj
        by_cases h : (0 : Nat) = i
        · by_cases h' : (0 : Nat) = j
          · rw [← h, ← h']
          · rw [if_neg h'] at hj; cases hj
        · rw [if_neg h] at hi; cases hi
      · rw [lk_cons] at ho
        by_cases h : (0 : Nat) = i
        · rw [if_pos h] at ho; cases ho
        · rw [if_neg h] at ho; cases ho
end
end Go.Eng
