/- What the row's laid variables give the walk. -/
import Derived.Test.YtokpcnppihgdlaaGreatDoorEt
import Derived.Test.YtokpcnppihgdlaaGreatDoorEx
import Derived.Test.YtokpcnppihgdlaaGreatDoorEw
import Derived.Test.YtokpcnppihgdlaaGreatDoorEp
import Derived.Test.YtokpcnppihgdlaaGreatDoorEm
import Derived.HandedShaped
import Derived.ProofKit
import Derived.Below
import Derived.Test.YtokpcnppihgdlaaGreatDoorEn
import Derived.Test.YtokpcnppihgdlaaGreatDoorRows
import Derived.Shelf.Vars
import Derived.FnData
namespace Go.Eng
open Go.Proofs Go.RowKit
variable {C : Ctx} [C.Loose]
set_option maxRecDepth 20000
theorem nf_msgs (n : Nat) (v : Nat → Int) (a most : Int) (R : AV → List (Nat × AObj) → Prop) : wpFn te [(46, .rel R_mmsg), (27, .det S_next)] [(3, L_msgs n v (a + 1) (nextV n v a (most + 1)))] 0 Tryz.f71 [.ptr 0 0, .int .i64 most] [.cells [.view 1 n (intRow v), .int .i64 a] 28] R = (letI z1 := (most + (1 : Int)); letI z0 := (MgS.mk 0 (fun (_x : Nat) => default) (a + (1 : Int))); inR .i64 z1 ∧ (28 = 28 ∧ 1 = 1 ∧ intRow v = intRow (vInt (intRow v)) ∧ ((1 : Int) ≤ most + (1 : Int) ∧ most + (1 : Int) ≤ (1000000 : Int)) ∧ (0 : Int) ≤ a ∧ a ≤ (4611686018427387904 : Int)) ∧ (TEq [(0, .ptr 0 0), (5, .own 1 0), (9, .int .i64 (nextV n (vInt (intRow v)) a z1)), (10, .int .i64 0)] [(0, .ptr 0 0), (5, .own 1 0), (9, .int .i64 (nextV n v a z1)), (10, .int .i64 (↑(MgS.c z0) : Int))] ∧ RowsEq [(0, .cells [.view 1 n (intRow v), .int .i64 (a + (1 : Int))] 28), (1, .row 56 15 0 (fun (_x : Nat) => []) false)] [(0, .cells [.view 1 n (intRow v), .int .i64 (MgS.a z0)] 28), (1, .row 56 15 0 (mgRow (MgS.g z0)) false)]) ∧ ((0 : Int) ≤ nextV n v a z1 ∧ nextV n v a z1 ≤ (100 : Int)) ∧ ((0 : Int) ≤ a + (1 : Int) ∧ a + (1 : Int) ≤ (4611686018427375000 : Int)) ∧ ∀ (i : MgS), MgS.c i = Int.toNat (nextV n v a z1) → a + (1 : Int) ≤ MgS.a i ∧ MgS.a i ≤ a + (1 : Int) + (10 : Int) * (↑(MgS.c i) : Int) → (∀ (j : Nat), j < MgS.c i → MG.Made (MgS.g i j)) → (∀ (i_1 : Nat), i_1 < MgS.c i → true = true) ∧ ∃ (O' : List (Nat × AObj)), RowsEq [(0, .cells [.view 1 n (intRow v), .int .i64 (MgS.a i)] 28), (1, .row 56 15 (MgS.c i) (mgRow (MgS.g i)) false)] O' ∧ R (.own 1 (MgS.c i)) O') := by kernel_rfl
theorem nf_msgs_round (n : Nat) (v : Nat → Int) (N : Int) (i : MgS) (P : MgS → Prop) (R : Exit → St → Prop) : roundP ⟨te, [(46, .rel R_mmsg)], [], 1, 19, 0⟩ (loopB Tryz.f71 3) [0, 5, 9, 10] [5] [] (S_msgs n v N) P R (S_msgs n v N i) = (condP (decide ((↑(MgS.c i) : Int) < N)) (28 = 28 ∧ 1 = 1 ∧ intRow v = intRow (vInt (intRow v)) ∧ ((0 : Int) ≤ MgS.a i ∧ MgS.a i ≤ (4611686018427385000 : Int)) ∧ ∀ (m : MG) (a' : Int), MG.Made m → MgS.a i ≤ a' ∧ a' ≤ MgS.a i + (10 : Int) → (15 ≤ 16777216 ∧ 15 = 15 ∧ 1 ≤ 9223372036854775807) ∧ ((1 ≤ 1 ∧ 15 = 15) ∧ MgS.c i ≤ MgS.c i ∧ 15 = 15 ∧ 56 = 56 ∧ 15 = 15 ∧ MgS.c i + 1 ≤ 9223372036854775807 ∧ (MgS.c i + 1) * TI.bytes shrtE0 ≤ 140737488355328) ∧ inR .i64 ((↑(MgS.c i) : Int) + (1 : Int)) ∧ ∃ (i' : MgS), (TEq [(0, .ptr 0 0), (5, .own 1 (MgS.c i + 1)), (9, .int .i64 N), (10, .int .i64 ((↑(MgS.c i) : Int) + (1 : Int)))] [(0, .ptr 0 0), (5, .own 1 (MgS.c i')), (9, .int .i64 N), (10, .int .i64 (↑(MgS.c i') : Int))] ∧ RowsEq [(0, .cells [.view 1 n (intRow v), .int .i64 a'] 28), (1, .row 56 15 (MgS.c i + 1) (apF (MgS.c i) (mgRow (MgS.g i)) (chunkA (TI.sz shrtE0) (.str (MG.dev m) :: .int .i64 (MG.seq m) :: .int .i64 (MG.kind m) :: .str (VT.o (MG.v m)) :: .str (VT.p (MG.v m)) :: .int .i64 (VT.per (MG.v m)) :: .int .i64 (VT.day (MG.v m)) :: .int .i64 (VT.st (MG.v m)) :: .int .i64 (VT.pr (MG.v m)) :: .str (VT.rep (MG.v m)) :: .str (DT.o (MG.d m)) :: .str (DT.p (MG.d m)) :: .int .i64 (DT.per (MG.d m)) :: .str (DT.dev (MG.d m)) :: .int .i64 (DT.num (MG.d m)) :: List.append [] shrtE1))) false)] [(0, .cells [.view 1 n (intRow v), .int .i64 (MgS.a i')] 28), (1, .row 56 15 (MgS.c i') (mgRow (MgS.g i')) false)]) ∧ P i') ((∀ (i_1 : Nat), i_1 < MgS.c i → true = true) ∧ ∃ (O' : List (Nat × AObj)), RowsEq [(0, .cells [.view 1 n (intRow v), .int .i64 (MgS.a i)] 28), (1, .row 56 15 (MgS.c i) (mgRow (MgS.g i)) false)] O' ∧ R (.exit 0) (St.mk [(5, .own 1 (MgS.c i))] O' 2 []))) := by kernel_rfl
theorem nf_raw11 (g : Nat → MG) (n : Nat) (R : AV → List (Nat × AObj) → Prop) : wpFn te [] [(3, L_rw11 g (min n 12))] 0 Tryz.f32 [.view 15 n (mgRow g)] [] R = (letI z0 := (Int.toNat (min (↑n : Int) (12 : Int))); ((0 : Int) ≤ min (↑n : Int) (12 : Int) ∧ min (↑n : Int) (12 : Int) ≤ (↑n : Int)) ∧ (TEq [(3, .own 0 0), (10, .view 15 z0 (mgRow g)), (11, .int .i64 (↑z0 : Int)), (12, .int .i64 0)] [(3, .own 0 0), (10, .view 15 (min n 12) (mgRow g)), (11, .int .i64 (↑(min n 12) : Int)), (12, .int .i64 (↑0 : Int))] ∧ RowsEq [(0, .row 56 15 0 (fun (_x : Nat) => []) false)] [(0, .row 56 15 0 (mgRow (cutM g)) false)]) ∧ min n 12 ≤ 12 ∧ (∀ (i : Nat), i < min n 12 → true = true) ∧ ∃ (O' : List (Nat × AObj)), RowsEq [(0, .row 56 15 (min n 12) (mgRow (cutM g)) false)] O' ∧ R (.own 0 (min n 12)) O') := by kernel_rfl
theorem nf_rw11_round (g : Nat → MG) (n k : Nat) (P : Nat → Prop) (R : Exit → St → Prop) : roundP ⟨te, [], [], 0, 96, 0⟩ (loopB Tryz.f32 3) [3, 10, 11, 12] [3] [] (S_rw11 g n) P R (S_rw11 g n k) = (letI z0 := (g (Int.toNat (↑k : Int))); letI z7 := (↑(List.length (MG.dev z0)) : Int); letI z6 := (↑(List.length (DT.p (MG.d z0))) : Int); letI z5 := (↑(List.length (DT.o (MG.d z0))) : Int); letI z4 := (↑(List.length (VT.p (MG.v z0))) : Int); letI z3 := (↑(List.length (VT.o (MG.v z0))) : Int); letI z2 := (↑(List.length (DT.dev (MG.d z0))) : Int); letI z1 := (↑(List.length (VT.rep (MG.v z0))) : Int); condP (decide ((↑k : Int) < (↑n : Int))) (((0 : Int) ≤ (↑k : Int) ∧ (↑k : Int) < (↑n : Int) ∧ 15 = 15) ∧ ((0 : Int) ≤ min z7 (30 : Int) ∧ min z7 (30 : Int) ≤ z7) ∧ ((0 : Int) ≤ min z3 (30 : Int) ∧ min z3 (30 : Int) ≤ z3) ∧ ((0 : Int) ≤ min z4 (30 : Int) ∧ min z4 (30 : Int) ≤ z4) ∧ ((0 : Int) ≤ min z1 (30 : Int) ∧ min z1 (30 : Int) ≤ z1) ∧ ((0 : Int) ≤ min z5 (30 : Int) ∧ min z5 (30 : Int) ≤ z5) ∧ ((0 : Int) ≤ min z6 (30 : Int) ∧ min z6 (30 : Int) ≤ z6) ∧ ((0 : Int) ≤ min z2 (30 : Int) ∧ min z2 (30 : Int) ≤ z2) ∧ (15 ≤ 16777216 ∧ 15 = 15 ∧ 1 ≤ 9223372036854775807) ∧ ((1 ≤ 1 ∧ 15 = 15) ∧ k ≤ k ∧ 15 = 15 ∧ 56 = 56 ∧ 15 = 15 ∧ k + 1 ≤ 9223372036854775807 ∧ (k + 1) * TI.bytes shrtE0 ≤ 140737488355328) ∧ inR .i64 ((↑k : Int) + (1 : Int)) ∧ ∃ (i' : Nat), (TEq [(3, .own 0 (k + 1)), (10, .view 15 n (mgRow g)), (11, .int .i64 (↑n : Int)), (12, .int .i64 ((↑k : Int) + (1 : Int)))] [(3, .own 0 i'), (10, .view 15 n (mgRow g)), (11, .int .i64 (↑n : Int)), (12, .int .i64 (↑i' : Int))] ∧ RowsEq [(0, .row 56 15 (k + 1) (apF k (mgRow (cutM g)) (chunkA (TI.sz shrtE0) (.str (List.take (Int.toNat (min z7 (30 : Int))) (MG.dev z0)) :: .int .i64 (MG.seq z0) :: .int .i64 (MG.kind z0) :: .str (List.take (Int.toNat (min z3 (30 : Int))) (VT.o (MG.v z0))) :: .str (List.take (Int.toNat (min z4 (30 : Int))) (VT.p (MG.v z0))) :: .int .i64 (VT.per (MG.v z0)) :: .int .i64 (VT.day (MG.v z0)) :: .int .i64 (VT.st (MG.v z0)) :: .int .i64 (VT.pr (MG.v z0)) :: .str (List.take (Int.toNat (min z1 (30 : Int))) (VT.rep (MG.v z0))) :: .str (List.take (Int.toNat (min z5 (30 : Int))) (DT.o (MG.d z0))) :: .str (List.take (Int.toNat (min z6 (30 : Int))) (DT.p (MG.d z0))) :: .int .i64 (DT.per (MG.d z0)) :: .str (List.take (Int.toNat (min z2 (30 : Int))) (DT.dev (MG.d z0))) :: .int .i64 (DT.num (MG.d z0)) :: List.append [] shrtE1))) false)] [(0, .row 56 15 i' (mgRow (cutM g)) false)]) ∧ P i') ((∀ (i : Nat), i < k → true = true) ∧ ∃ (O' : List (Nat × AObj)), RowsEq [(0, .row 56 15 k (mgRow (cutM g)) false)] O' ∧ R (.exit 0) (St.mk [(3, .own 0 k)] O' 1 []))) := by kernel_rfl
theorem nf_aw11 (R : AV → List (Nat × AObj) → Prop) : wpFn te [(41, .det S_resolveO)] [] 0 Tryz.f35 [] [] R = ((15 ≤ 16777216 ∧ 15 = 15 ∧ 1 ≤ 9223372036854775807) ∧ (∀ (i : Nat), i < 1 → nrefL (chunkA (TI.sz shrtE0) (.str [(97 : UInt8)] :: .int .i64 1 :: .int .i64 1 :: .str [(111 : UInt8), 49] :: .str [(57 : UInt8), 54, 51, 56, 53, 48, 55, 52] :: .int .i64 5 :: .int .i64 160 :: .int .i64 1 :: .int .i64 100 :: .str [] :: .str [] :: .str [] :: .int .i64 0 :: .str [] :: .int .i64 0 :: List.append [] shrtE1) i) = true) ∧ (1 = 1 ∧ 1 ≤ 100000 ∧ RM (chunkA (TI.sz shrtE0) (.str [(97 : UInt8)] :: .int .i64 1 :: .int .i64 1 :: .str [(111 : UInt8), 49] :: .str [(57 : UInt8), 54, 51, 56, 53, 48, 55, 52] :: .int .i64 5 :: .int .i64 160 :: .int .i64 1 :: .int .i64 100 :: .str [] :: .str [] :: .str [] :: .int .i64 0 :: .str [] :: .int .i64 0 :: List.append [] shrtE1)) 1) ∧ R (.bool true) []) := by kernel_rfl
theorem mput_ap (g : Nat → MG) (k : Nat) (r : MG) (ch : Nat → List AV) (hch : ch 0 = mgC r) (j : Nat) (_hj : j < k + 1) : apF k (mgRow g) ch j = mgRow (MG.put g k r) j := by
  unfold apF mgRow MG.put
  by_cases h : j < k
  · rw [if_pos h, if_pos h]
  · have : j = k := by omega
    rw [if_neg h, if_neg h, this, Nat.sub_self, hch]; rfl
theorem msgs_loop (hP : C.P = Tryz.prog) (n : Nat) (v : Nat → Int) (a N : Int) : LoopOK C 1 19 (loopC Tryz.f71 3) (L_msgs n v a N) := by
  rintro st Q ⟨h0, hN, ha, hQ⟩
  refine AWP.ownNil 5 56 15 ?_
  refine LoopOK.mk (prg hP) [(46, .rel R_mmsg)] 0 (.cons (mmsg_ok hP) .nil) [0, 5, 9, 10] [5] [] (S_msgs n v N) (fun i => (i.c : Int) ≤ N ∧ (a ≤ i.a ∧ i.a ≤ a + 10 * i.c) ∧ ∀ j, j < i.c → (i.g j).Made) (fun i => N.toNat - i.c) ⟨0, fun _ => default, a⟩
    ⟨hN.1, by show a ≤ a ∧ a ≤ a + 10 * ((0 : Nat) : Int); omega, fun j hj => absurd hj (Nat.not_lt_zero j)⟩ h0 (fun i hi => ?_) (fun i => ⟨fun _ _ => rfl, trivial⟩)
  obtain ⟨h1, h2, h3⟩ := hi
  rw [nf_msgs_round]
  refine condP_dec (fun q => ?_) (fun q => ⟨fun _ _ => rfl, _, rowsEqR _, hQ i (by omega) h2 h3⟩)
  refine ⟨rfl, rfl, rfl, by omega, fun m a' hm ha' => ⟨⟨by omega, rfl, by omega⟩, ⟨⟨Nat.le_refl _, rfl⟩, Nat.le_refl _, rfl, rfl, rfl, by omega, ?_⟩, by simp only [inR]; omega, ⟨i.c + 1, MG.put i.g i.c m, a'⟩, ⟨rfl, rfl, ⟨rfl, rfl, rfl, rfl, rfl, fun j hj => ?_⟩, trivial⟩, ⟨?_, ?_, fun j hj => ?_⟩, ?_⟩⟩
  · show (i.c + 1) * 176 ≤ _
    omega
  · exact mput_ap i.g i.c m _ rfl j hj
  · show ((i.c + 1 : Nat) : Int) ≤ N
    omega
  · show a ≤ a' ∧ a' ≤ a + 10 * ((i.c + 1 : Nat) : Int)
    omega
  · show (MG.put i.g i.c m j).Made
    unfold MG.put
    by_cases h : j < i.c
    · rw [if_pos h]; exact h3 j h
    · rw [if_neg h]; exact hm
  · show N.toNat - (i.c + 1) < N.toNat - i.c
    omega
theorem msgs_ok (hP : C.P = Tryz.prog) : RSpecOK C 71 R_msgs := by
  rintro args objs R h
  unfold R_msgs at h
  split at h
  · rename_i most sz n f a t
    obtain ⟨rfl, rfl, hf, ha, hm, hR⟩ := h
    rw [hf] at hR ⊢
    generalize vInt f = v at *
    have hw : vInt (intRow v) = v := rfl
    refine RSpecOK.wpL (prg hP) [(46, .rel R_mmsg), (27, .det S_next)] [(3, L_msgs n v (a + 1) (nextV n v a (most + 1)))] 0 (.cons (mmsg_ok hP) (.cons (next_ok hP) .nil)) (hP ▸ Tryz.func71) rfl rfl rfl [(loopC Tryz.f71 3, L_msgs n v (a + 1) (nextV n v a (most + 1)))] (by kernel_rfl) ⟨msgs_loop hP _ _ _ _, trivial⟩ ?_
    rw [nf_msgs, hw]
    have r := nextV_range (show (1 : Int) ≤ most + 1 by omega) n v a
    exact ⟨by simp only [inR]; omega, ⟨rfl, rfl, rfl, ⟨by omega, by omega⟩, by omega, by omega⟩, ⟨rfl, rfl, ⟨rfl, rfl, rfl, rfl, rfl, fun i hi => absurd hi (Nat.not_lt_zero i)⟩, trivial⟩, ⟨by omega, by omega⟩, ⟨by omega, by omega⟩, fun i h1 h2 h3 => ⟨fun _ _ => rfl, _, rowsEqR _, hR i.c i.g i.a (by omega) ⟨by omega, by omega⟩ h3⟩⟩
  · exact h.elim
theorem rw11_loop (hP : C.P = Tryz.prog) (g : Nat → MG) (n : Nat) : LoopOK C 0 96 (loopC Tryz.f32 3) (L_rw11 g n) := by
  have _ : C.Loose := inferInstance
  rintro st Q ⟨h0, hn, hQ⟩
  refine AWP.ownNil 3 56 15 ?_
  refine LoopOK.mk (prg hP) [] 0 .nil [3, 10, 11, 12] [3] [] (S_rw11 g n) (fun k => k ≤ n) (fun k => n - k) 0 (Nat.zero_le _) h0 (fun k hk => ?_) (fun i => ⟨fun _ _ => rfl, trivial⟩)
  rw [nf_rw11_round, Int.toNat_natCast, take_m, take_m, take_m, take_m, take_m, take_m, take_m]
  refine condP_dec (fun h1 => ⟨⟨by omega, by omega, rfl⟩, ⟨by omega, by omega⟩, ⟨by omega, by omega⟩, ⟨by omega, by omega⟩, ⟨by omega, by omega⟩, ⟨by omega, by omega⟩, ⟨by omega, by omega⟩, ⟨by omega, by omega⟩, ⟨by omega, rfl, by omega⟩, ⟨⟨Nat.le_refl _, rfl⟩, Nat.le_refl _, rfl, rfl, rfl, by omega, ?_⟩, by simp only [inR]; omega, k + 1, ⟨rfl, ⟨rfl, rfl, rfl, rfl, rfl, fun j hj => ?_⟩, trivial⟩, by omega, by omega⟩) (fun h1 => ⟨fun _ _ => rfl, _, rowsEqR _, ?_⟩)
  · show (k + 1) * 176 ≤ _
    omega
  · unfold apF
    by_cases h : j < k
    · rw [if_pos h]
    · have : j = k := by omega
      rw [if_neg h, this, Nat.sub_self]; rfl
  · have : k = n := by omega
    subst this
    exact hQ
theorem raw11_ok (hP : C.P = Tryz.prog) : SpecOK C 32 S_raw11 := by
  rintro args objs U Os vc h hvc
  unfold S_raw11 at h
  split at h <;> simp only [Option.some.injEq, Prod.mk.injEq, reduceCtorEq] at h
  rename_i n f
  obtain ⟨rfl, rfl, rfl⟩ := h
  have hf := hvc
  generalize mgOf f = g at *
  subst hf
  refine ACalls.frzO 0 ?_
  refine RSpecOK.wpL (prg hP) [] [(3, L_rw11 g (min n 12))] 0 .nil (hP ▸ Tryz.func32) rfl rfl rfl [(loopC Tryz.f32 3, L_rw11 g (min n 12))] (by kernel_rfl) ⟨rw11_loop hP g _, trivial⟩ ?_
  rw [nf_raw11]
  have hm : (min (n : Int) (12 : Int)).toNat = min n 12 := by omega
  rw [hm]
  refine ⟨⟨by omega, by omega⟩, ⟨rfl, ⟨rfl, rfl, rfl, rfl, rfl, fun i hi => absurd hi (Nat.not_lt_zero i)⟩, trivial⟩, by omega, fun _ _ => rfl, _, rowsEqR _, fun _ _ => rfl, ?_⟩
  have hb : Nat.ble (min n 12) (min n 12) = true := Nat.ble_eq_true_of_le (Nat.le_refl _)
  constructor
  · simp [frzC, frzA, frz, hb]
  · rfl
theorem resolveO_ok (hP : C.P = Tryz.prog) (hL : ∀ w, C.laid w → LaidW w) : SpecOK C 41 S_resolveO := by
  rintro args objs U Os vc h hvc
  unfold S_resolveO at h
  split at h <;> simp only [Option.some.injEq, Prod.mk.injEq, reduceCtorEq] at h
  rename_i n o p per t m f fr
  obtain ⟨rfl, rfl, rfl⟩ := h
  obtain ⟨rfl, hn, ⟨hf, hs⟩⟩ := hvc
  refine ACalls.rowEq 0 (f' := mgRow (mgOf f)) rfl (fun i hi => (hf i hi).symm) ?_
  have hb : Nat.ble n n = true := Nat.ble_eq_true_of_le (Nat.le_refl _)
  exact ADet.give (resolve_ok hP hL [.view 15 n (mgRow (mgOf f)), .str o, .str p, .int .i64 per] [] _ _ _ rfl ⟨hn, rfl, hs⟩) (by simp [frzC, frzA, frz, hb]) rfl rfl (fun _ _ => rfl)
theorem mrgV_ok (hP : C.P = Tryz.prog) (hL : ∀ w, C.laid w → LaidW w) : SpecOK C 38 S_mrgV := by
  rintro args objs U Os vc hh hvc
  unfold S_mrgV at hh
  split at hh <;> simp only [Option.some.injEq, Prod.mk.injEq, reduceCtorEq] at hh
  rename_i n f m h
  obtain ⟨rfl, rfl, rfl⟩ := hh
  refine ACalls.frzO 0 (ACalls.mono (mrg_ok hP hL [.view 15 n f, .view 15 m h] [] _ _ _ rfl hvc) ?_)
  rintro u O ⟨rfl, rfl⟩
  have hb : Nat.ble (mrgL (mgOf f) n (mgOf h) m).length (mrgL (mgOf f) n (mgOf h) m).length = true := Nat.ble_eq_true_of_le (Nat.le_refl _)
  refine ⟨fun _ _ => rfl, ?_⟩
  constructor
  · simp [frzC, frzA, frz, hb]
  · rfl
def awM : MG := ⟨[97], 1, 1, ⟨[111, 49], [57, 54, 51, 56, 53, 48, 55, 52], 5, 160, 1, 100, []⟩, ⟨[], [], 0, [], 0⟩⟩
theorem awake11_ok (hP : C.P = Tryz.prog) (hL : ∀ w, C.laid w → LaidW w) : SpecOK C 35 S_awake11 := by
  rintro args objs U Os vc h hvc
  unfold S_awake11 at h
  split at h <;> simp only [Option.some.injEq, Prod.mk.injEq, reduceCtorEq] at h
  obtain ⟨rfl, rfl, rfl⟩ := h
  refine SpecOK.wp0 (prg hP) [(41, .det S_resolveO)] 0 (.cons (resolveO_ok hP hL) .nil) (hP ▸ Tryz.func35) rfl rfl rfl ?_
  rw [nf_aw11]
  generalize hf : chunkA _ _ = f
  have f0 : f 0 = mgRow (atM [awM]) 0 := by rw [← hf]; rfl
  have one : ∀ {p : Nat → Prop}, p 0 → ∀ i, i < 1 → p i := fun h0 i hi => by
    match i, hi with
    | 0, _ => exact h0
  have r0 : mgOf f 0 = atM [awM] 0 := by unfold mgOf; rw [f0]; rfl
  exact ⟨⟨by omega, rfl, by omega⟩, one (by rw [f0]; rfl), ⟨rfl, by omega, ⟨one (by show f 0 = mgC (mgOf f 0); rw [r0, f0]; rfl), one (by rw [r0]; exact ⟨by decide, by decide, by decide, by decide⟩)⟩⟩, rfl, rfl⟩
end Go.Eng
namespace Go.Eng
open Go.Proofs Go.RowKit
variable {C : Ctx} [C.Loose]
set_option maxRecDepth 20000
theorem nf_sp11 (n : Nat) (v : Nat → Int) (a : Int) (R : AV → List (Nat × AObj) → Prop) : wpFn te [(46, .rel R_mmsg), (27, .det S_next)] [] 0 Tryz.f31 [.ptr 0 0] [.cells [.view 1 n (intRow v), .int .i64 a] 28] R = (letI z2 := (4611686018427387904 : Int); 28 = 28 ∧ 1 = 1 ∧ intRow v = intRow (vInt (intRow v)) ∧ ((0 : Int) ≤ a ∧ a ≤ (4611686018427385000 : Int)) ∧ ∀ (m : MG) (a' : Int), letI z6 := (nextV n (vInt (intRow v)) (a' + (1 : Int)) (5 : Int)); letI z5 := (nextV n (vInt (intRow v)) (a' + (1 : Int)) (2 : Int)); letI z3 := (nextV n (vInt (intRow v)) (a' + (1 : Int)) (3 : Int)); letI z1 := (nextV n (vInt (intRow v)) (a' + (1 : Int)) (4 : Int)); letI z4 := Int.toNat z1 < 4 ∧ 1 = 1; letI z0 := ([(0, .cells [.view 1 n (intRow v), .int .i64 (a' + (1 : Int) + (1 : Int))] 28)] : List (Nat × AObj)); MG.Made m → a ≤ a' ∧ a' ≤ a + (10 : Int) → (28 = 28 ∧ 1 = 1 ∧ intRow v = intRow (vInt (intRow v)) ∧ ((1 : Int) ≤ (16 : Int) ∧ (16 : Int) ≤ (1000000 : Int)) ∧ (0 : Int) ≤ a' ∧ a' ≤ z2) ∧ condP (decide (nextV n (vInt (intRow v)) a' (16 : Int) = (0 : Int))) ((4 ≤ 16777216 ∧ 1 = 1 ∧ 4 ≤ 9223372036854775807) ∧ (28 = 28 ∧ 1 = 1 ∧ intRow v = intRow (vInt (intRow v)) ∧ ((1 : Int) ≤ (4 : Int) ∧ (4 : Int) ≤ (1000000 : Int)) ∧ (0 : Int) ≤ a' + (1 : Int) ∧ a' + (1 : Int) ≤ z2) ∧ ((0 : Int) ≤ nextV n (vInt (intRow v)) (a' + (1 : Int)) (4 : Int) ∧ nextV n (vInt (intRow v)) (a' + (1 : Int)) (4 : Int) < (↑4 : Int)) ∧ z4 ∧ (True ∧ True) ∧ R (.agg [.str (List.getD [[], [(65 : UInt8)], [(97 : UInt8), 32, 98], [(97 : UInt8), 98, 99, 100, 101, 102, 103, 104, 105, 106, 107, 108, 109, 110, 111, 112, 113, 114, 115, 116, 117, 118, 119, 120, 121]] (Int.toNat z1) []), .int .i64 (MG.seq m), .int .i64 (MG.kind m), .str (VT.o (MG.v m)), .str (VT.p (MG.v m)), .int .i64 (VT.per (MG.v m)), .int .i64 (VT.day (MG.v m)), .int .i64 (VT.st (MG.v m)), .int .i64 (VT.pr (MG.v m)), .str (VT.rep (MG.v m)), .str (DT.o (MG.d m)), .str (DT.p (MG.d m)), .int .i64 (DT.per (MG.d m)), .str (DT.dev (MG.d m)), .int .i64 (DT.num (MG.d m))]) z0) (condP (decide (nextV n (vInt (intRow v)) a' (16 : Int) = (1 : Int))) ((4 ≤ 16777216 ∧ 1 = 1 ∧ 4 ≤ 9223372036854775807) ∧ (28 = 28 ∧ 1 = 1 ∧ intRow v = intRow (vInt (intRow v)) ∧ ((1 : Int) ≤ (4 : Int) ∧ (4 : Int) ≤ (1000000 : Int)) ∧ (0 : Int) ≤ a' + (1 : Int) ∧ a' + (1 : Int) ≤ z2) ∧ ((0 : Int) ≤ nextV n (vInt (intRow v)) (a' + (1 : Int)) (4 : Int) ∧ nextV n (vInt (intRow v)) (a' + (1 : Int)) (4 : Int) < (↑4 : Int)) ∧ z4 ∧ (True ∧ True) ∧ R (.agg [.str (MG.dev m), .int .i64 (List.getD [(0 : Int), (-1 : Int), (1048576 : Int), (1048577 : Int)] (Int.toNat z1) (0 : Int)), .int .i64 (MG.kind m), .str (VT.o (MG.v m)), .str (VT.p (MG.v m)), .int .i64 (VT.per (MG.v m)), .int .i64 (VT.day (MG.v m)), .int .i64 (VT.st (MG.v m)), .int .i64 (VT.pr (MG.v m)), .str (VT.rep (MG.v m)), .str (DT.o (MG.d m)), .str (DT.p (MG.d m)), .int .i64 (DT.per (MG.d m)), .str (DT.dev (MG.d m)), .int .i64 (DT.num (MG.d m))]) z0) (condP (decide (nextV n (vInt (intRow v)) a' (16 : Int) = (2 : Int))) ((28 = 28 ∧ 1 = 1 ∧ intRow v = intRow (vInt (intRow v)) ∧ ((1 : Int) ≤ (4 : Int) ∧ (4 : Int) ≤ (1000000 : Int)) ∧ (0 : Int) ≤ a' + (1 : Int) ∧ a' + (1 : Int) ≤ z2) ∧ (True ∧ True) ∧ R (.agg [.str (MG.dev m), .int .i64 (MG.seq m), .int .i64 z1, .str (VT.o (MG.v m)), .str (VT.p (MG.v m)), .int .i64 (VT.per (MG.v m)), .int .i64 (VT.day (MG.v m)), .int .i64 (VT.st (MG.v m)), .int .i64 (VT.pr (MG.v m)), .str (VT.rep (MG.v m)), .str (DT.o (MG.d m)), .str (DT.p (MG.d m)), .int .i64 (DT.per (MG.d m)), .str (DT.dev (MG.d m)), .int .i64 (DT.num (MG.d m))]) z0) (condP (decide (nextV n (vInt (intRow v)) a' (16 : Int) = (3 : Int))) ((2 ≤ 16777216 ∧ 1 = 1 ∧ 2 ≤ 9223372036854775807) ∧ (28 = 28 ∧ 1 = 1 ∧ intRow v = intRow (vInt (intRow v)) ∧ ((1 : Int) ≤ (2 : Int) ∧ (2 : Int) ≤ (1000000 : Int)) ∧ (0 : Int) ≤ a' + (1 : Int) ∧ a' + (1 : Int) ≤ z2) ∧ ((0 : Int) ≤ nextV n (vInt (intRow v)) (a' + (1 : Int)) (2 : Int) ∧ nextV n (vInt (intRow v)) (a' + (1 : Int)) (2 : Int) < (↑2 : Int)) ∧ (Int.toNat z5 < 2 ∧ 1 = 1) ∧ (True ∧ True) ∧ R (.agg [.str (MG.dev m), .int .i64 (MG.seq m), .int .i64 (MG.kind m), .str (List.getD [[], [(120 : UInt8), 32, 121]] (Int.toNat z5) []), .str (VT.p (MG.v m)), .int .i64 (VT.per (MG.v m)), .int .i64 (VT.day (MG.v m)), .int .i64 (VT.st (MG.v m)), .int .i64 (VT.pr (MG.v m)), .str (VT.rep (MG.v m)), .str (DT.o (MG.d m)), .str (DT.p (MG.d m)), .int .i64 (DT.per (MG.d m)), .str (DT.dev (MG.d m)), .int .i64 (DT.num (MG.d m))]) z0) (condP (decide (nextV n (vInt (intRow v)) a' (16 : Int) = (4 : Int))) ((3 ≤ 16777216 ∧ 1 = 1 ∧ 3 ≤ 9223372036854775807) ∧ (28 = 28 ∧ 1 = 1 ∧ intRow v = intRow (vInt (intRow v)) ∧ ((1 : Int) ≤ (3 : Int) ∧ (3 : Int) ≤ (1000000 : Int)) ∧ (0 : Int) ≤ a' + (1 : Int) ∧ a' + (1 : Int) ≤ z2) ∧ ((0 : Int) ≤ nextV n (vInt (intRow v)) (a' + (1 : Int)) (3 : Int) ∧ nextV n (vInt (intRow v)) (a' + (1 : Int)) (3 : Int) < (↑3 : Int)) ∧ (Int.toNat z3 < 3 ∧ 1 = 1) ∧ (True ∧ True) ∧ R (.agg [.str (MG.dev m), .int .i64 (MG.seq m), .int .i64 (MG.kind m), .str (VT.o (MG.v m)), .str (List.getD [[], [(49 : UInt8), 50, 51, 52, 53, 54, 55, 56], [(57 : UInt8), 54, 51, 56, 53, 48, 55, 52]] (Int.toNat z3) []), .int .i64 (VT.per (MG.v m)), .int .i64 (VT.day (MG.v m)), .int .i64 (VT.st (MG.v m)), .int .i64 (VT.pr (MG.v m)), .str (VT.rep (MG.v m)), .str (DT.o (MG.d m)), .str (DT.p (MG.d m)), .int .i64 (DT.per (MG.d m)), .str (DT.dev (MG.d m)), .int .i64 (DT.num (MG.d m))]) z0) (condP (decide (nextV n (vInt (intRow v)) a' (16 : Int) = (5 : Int))) ((4 ≤ 16777216 ∧ 1 = 1 ∧ 4 ≤ 9223372036854775807) ∧ (28 = 28 ∧ 1 = 1 ∧ intRow v = intRow (vInt (intRow v)) ∧ ((1 : Int) ≤ (4 : Int) ∧ (4 : Int) ≤ (1000000 : Int)) ∧ (0 : Int) ≤ a' + (1 : Int) ∧ a' + (1 : Int) ≤ z2) ∧ ((0 : Int) ≤ nextV n (vInt (intRow v)) (a' + (1 : Int)) (4 : Int) ∧ nextV n (vInt (intRow v)) (a' + (1 : Int)) (4 : Int) < (↑4 : Int)) ∧ z4 ∧ (True ∧ True) ∧ R (.agg [.str (MG.dev m), .int .i64 (MG.seq m), .int .i64 (MG.kind m), .str (VT.o (MG.v m)), .str (VT.p (MG.v m)), .int .i64 (List.getD [(-1 : Int), (0 : Int), (5999 : Int), (6000 : Int)] (Int.toNat z1) (0 : Int)), .int .i64 (VT.day (MG.v m)), .int .i64 (VT.st (MG.v m)), .int .i64 (VT.pr (MG.v m)), .str (VT.rep (MG.v m)), .str (DT.o (MG.d m)), .str (DT.p (MG.d m)), .int .i64 (DT.per (MG.d m)), .str (DT.dev (MG.d m)), .int .i64 (DT.num (MG.d m))]) z0) (condP (decide (nextV n (vInt (intRow v)) a' (16 : Int) = (6 : Int))) ((4 ≤ 16777216 ∧ 1 = 1 ∧ 4 ≤ 9223372036854775807) ∧ (28 = 28 ∧ 1 = 1 ∧ intRow v = intRow (vInt (intRow v)) ∧ ((1 : Int) ≤ (4 : Int) ∧ (4 : Int) ≤ (1000000 : Int)) ∧ (0 : Int) ≤ a' + (1 : Int) ∧ a' + (1 : Int) ≤ z2) ∧ ((0 : Int) ≤ nextV n (vInt (intRow v)) (a' + (1 : Int)) (4 : Int) ∧ nextV n (vInt (intRow v)) (a' + (1 : Int)) (4 : Int) < (↑4 : Int)) ∧ z4 ∧ (True ∧ True) ∧ R (.agg [.str (MG.dev m), .int .i64 (MG.seq m), .int .i64 (MG.kind m), .str (VT.o (MG.v m)), .str (VT.p (MG.v m)), .int .i64 (VT.per (MG.v m)), .int .i64 (List.getD [(-1 : Int), (0 : Int), (182620 : Int), (182621 : Int)] (Int.toNat z1) (0 : Int)), .int .i64 (VT.st (MG.v m)), .int .i64 (VT.pr (MG.v m)), .str (VT.rep (MG.v m)), .str (DT.o (MG.d m)), .str (DT.p (MG.d m)), .int .i64 (DT.per (MG.d m)), .str (DT.dev (MG.d m)), .int .i64 (DT.num (MG.d m))]) z0) (condP (decide (nextV n (vInt (intRow v)) a' (16 : Int) = (7 : Int))) ((28 = 28 ∧ 1 = 1 ∧ intRow v = intRow (vInt (intRow v)) ∧ ((1 : Int) ≤ (7 : Int) ∧ (7 : Int) ≤ (1000000 : Int)) ∧ (0 : Int) ≤ a' + (1 : Int) ∧ a' + (1 : Int) ≤ z2) ∧ (True ∧ True) ∧ R (.agg [.str (MG.dev m), .int .i64 (MG.seq m), .int .i64 (MG.kind m), .str (VT.o (MG.v m)), .str (VT.p (MG.v m)), .int .i64 (VT.per (MG.v m)), .int .i64 (VT.day (MG.v m)), .int .i64 (nextV n (vInt (intRow v)) (a' + (1 : Int)) (7 : Int)), .int .i64 (VT.pr (MG.v m)), .str (VT.rep (MG.v m)), .str (DT.o (MG.d m)), .str (DT.p (MG.d m)), .int .i64 (DT.per (MG.d m)), .str (DT.dev (MG.d m)), .int .i64 (DT.num (MG.d m))]) z0) (condP (decide (nextV n (vInt (intRow v)) a' (16 : Int) = (8 : Int))) ((5 ≤ 16777216 ∧ 1 = 1 ∧ 5 ≤ 9223372036854775807) ∧ (28 = 28 ∧ 1 = 1 ∧ intRow v = intRow (vInt (intRow v)) ∧ ((1 : Int) ≤ (5 : Int) ∧ (5 : Int) ≤ (1000000 : Int)) ∧ (0 : Int) ≤ a' + (1 : Int) ∧ a' + (1 : Int) ≤ z2) ∧ ((0 : Int) ≤ nextV n (vInt (intRow v)) (a' + (1 : Int)) (5 : Int) ∧ nextV n (vInt (intRow v)) (a' + (1 : Int)) (5 : Int) < (↑5 : Int)) ∧ (Int.toNat z6 < 5 ∧ 1 = 1) ∧ (True ∧ True) ∧ R (.agg [.str (MG.dev m), .int .i64 (MG.seq m), .int .i64 (MG.kind m), .str (VT.o (MG.v m)), .str (VT.p (MG.v m)), .int .i64 (VT.per (MG.v m)), .int .i64 (VT.day (MG.v m)), .int .i64 (VT.st (MG.v m)), .int .i64 (List.getD [(-1 : Int), (0 : Int), (1 : Int), (1099511627776 : Int), (1099511627777 : Int)] (Int.toNat z6) (0 : Int)), .str (VT.rep (MG.v m)), .str (DT.o (MG.d m)), .str (DT.p (MG.d m)), .int .i64 (DT.per (MG.d m)), .str (DT.dev (MG.d m)), .int .i64 (DT.num (MG.d m))]) z0) (condP (decide (nextV n (vInt (intRow v)) a' (16 : Int) = (9 : Int))) ((4 ≤ 16777216 ∧ 1 = 1 ∧ 4 ≤ 9223372036854775807) ∧ (28 = 28 ∧ 1 = 1 ∧ intRow v = intRow (vInt (intRow v)) ∧ ((1 : Int) ≤ (4 : Int) ∧ (4 : Int) ≤ (1000000 : Int)) ∧ (0 : Int) ≤ a' + (1 : Int) ∧ a' + (1 : Int) ≤ z2) ∧ ((0 : Int) ≤ nextV n (vInt (intRow v)) (a' + (1 : Int)) (4 : Int) ∧ nextV n (vInt (intRow v)) (a' + (1 : Int)) (4 : Int) < (↑4 : Int)) ∧ z4 ∧ (True ∧ True) ∧ R (.agg [.str (MG.dev m), .int .i64 (MG.seq m), .int .i64 (MG.kind m), .str (VT.o (MG.v m)), .str (VT.p (MG.v m)), .int .i64 (VT.per (MG.v m)), .int .i64 (VT.day (MG.v m)), .int .i64 (VT.st (MG.v m)), .int .i64 (VT.pr (MG.v m)), .str (List.getD [[], [(49 : UInt8), 50, 51, 52, 53, 54, 55, 56], [(57 : UInt8), 54, 51, 56, 53, 48, 55, 52], VT.p (MG.v m)] (Int.toNat z1) []), .str (DT.o (MG.d m)), .str (DT.p (MG.d m)), .int .i64 (DT.per (MG.d m)), .str (DT.dev (MG.d m)), .int .i64 (DT.num (MG.d m))]) z0) (condP (decide (nextV n (vInt (intRow v)) a' (16 : Int) = (10 : Int))) ((4 ≤ 16777216 ∧ 1 = 1 ∧ 4 ≤ 9223372036854775807) ∧ (28 = 28 ∧ 1 = 1 ∧ intRow v = intRow (vInt (intRow v)) ∧ ((1 : Int) ≤ (4 : Int) ∧ (4 : Int) ≤ (1000000 : Int)) ∧ (0 : Int) ≤ a' + (1 : Int) ∧ a' + (1 : Int) ≤ z2) ∧ ((0 : Int) ≤ nextV n (vInt (intRow v)) (a' + (1 : Int)) (4 : Int) ∧ nextV n (vInt (intRow v)) (a' + (1 : Int)) (4 : Int) < (↑4 : Int)) ∧ z4 ∧ (True ∧ True) ∧ R (.agg [.str (MG.dev m), .int .i64 (MG.seq m), .int .i64 (MG.kind m), .str (VT.o (MG.v m)), .str (VT.p (MG.v m)), .int .i64 (VT.per (MG.v m)), .int .i64 (VT.day (MG.v m)), .int .i64 (VT.st (MG.v m)), .int .i64 (VT.pr (MG.v m)), .str (VT.rep (MG.v m)), .str (DT.o (MG.d m)), .str (DT.p (MG.d m)), .int .i64 (DT.per (MG.d m)), .str (DT.dev (MG.d m)), .int .i64 (List.getD [(0 : Int), (1 : Int), (1048576 : Int), (1048577 : Int)] (Int.toNat z1) (0 : Int))]) z0) (condP (decide (nextV n (vInt (intRow v)) a' (16 : Int) = (11 : Int))) ((3 ≤ 16777216 ∧ 1 = 1 ∧ 3 ≤ 9223372036854775807) ∧ (28 = 28 ∧ 1 = 1 ∧ intRow v = intRow (vInt (intRow v)) ∧ ((1 : Int) ≤ (3 : Int) ∧ (3 : Int) ≤ (1000000 : Int)) ∧ (0 : Int) ≤ a' + (1 : Int) ∧ a' + (1 : Int) ≤ z2) ∧ ((0 : Int) ≤ nextV n (vInt (intRow v)) (a' + (1 : Int)) (3 : Int) ∧ nextV n (vInt (intRow v)) (a' + (1 : Int)) (3 : Int) < (↑3 : Int)) ∧ (Int.toNat z3 < 3 ∧ 1 = 1) ∧ (True ∧ True) ∧ R (.agg [.str (MG.dev m), .int .i64 (MG.seq m), .int .i64 (MG.kind m), .str (VT.o (MG.v m)), .str (VT.p (MG.v m)), .int .i64 (VT.per (MG.v m)), .int .i64 (VT.day (MG.v m)), .int .i64 (VT.st (MG.v m)), .int .i64 (VT.pr (MG.v m)), .str (VT.rep (MG.v m)), .str (DT.o (MG.d m)), .str (DT.p (MG.d m)), .int .i64 (DT.per (MG.d m)), .str (List.getD [[], [(45 : UInt8)], [(98 : UInt8)]] (Int.toNat z3) []), .int .i64 (DT.num (MG.d m))]) z0) ((True ∧ True) ∧ R (.agg [.str (MG.dev m), .int .i64 (MG.seq m), .int .i64 (MG.kind m), .str (VT.o (MG.v m)), .str (VT.p (MG.v m)), .int .i64 (VT.per (MG.v m)), .int .i64 (VT.day (MG.v m)), .int .i64 (VT.st (MG.v m)), .int .i64 (VT.pr (MG.v m)), .str (VT.rep (MG.v m)), .str (DT.o (MG.d m)), .str (DT.p (MG.d m)), .int .i64 (DT.per (MG.d m)), .str (DT.dev (MG.d m)), .int .i64 (DT.num (MG.d m))]) [(0, .cells [.view 1 n (intRow v), .int .i64 (a' + (1 : Int))] 28)]))))))))))))) := by kernel_rfl
theorem nf_list (n : Nat) (v : Nat → Int) (a : Int) (R : AV → List (Nat × AObj) → Prop) : wpFn te [(71, .rel R_msgs), (27, .det S_next), (31, .rel R_sp11)] [(3, L_li n v)] 0 Tryz.f36 [.ptr 0 0] [.cells [.view 1 n (intRow v), .int .i64 a] 28] R = (letI z5 := (4611686018427387904 : Int); 28 = 28 ∧ 1 = 1 ∧ intRow v = intRow (vInt (intRow v)) ∧ ((0 : Int) ≤ a ∧ a ≤ (4611686018427370000 : Int)) ∧ ((0 : Int) ≤ (9 : Int) ∧ (9 : Int) ≤ (90 : Int)) ∧ ∀ (c : Nat) (g : Nat → MG) (a' : Int), c ≤ Int.toNat (9 : Int) → a ≤ a' ∧ a' ≤ a + (1000 : Int) → (∀ (j : Nat), j < c → MG.Made (g j)) → (∀ (i : Nat), i < c → true = true) ∧ (28 = 28 ∧ 1 = 1 ∧ intRow v = intRow (vInt (intRow v)) ∧ ((1 : Int) ≤ (3 : Int) ∧ (3 : Int) ≤ (1000000 : Int)) ∧ (0 : Int) ≤ a' ∧ a' ≤ z5) ∧ ∃ (N : Int), ∃ (c_1 : Nat), ∃ (g_1 : Nat → MG), ∃ (a : Int), letI z4 := LiS.mk 0 c_1 g_1 a; (TEq [(0, .ptr 0 0), (3, .own 1 c), (7, .int .i64 (nextV n (vInt (intRow v)) a' (3 : Int))), (8, .int .i64 0)] [(0, .ptr 0 0), (3, .own 1 (LiS.c z4)), (7, .int .i64 N), (8, .int .i64 (↑(LiS.j z4) : Int))] ∧ RowsEq [(0, .cells [.view 1 n (intRow v), .int .i64 (a' + (1 : Int))] 28), (1, .row 56 15 c (mgRow g) false)] [(0, .cells [.view 1 n (intRow v), .int .i64 (LiS.a z4)] 28), (1, .row 56 15 (LiS.c z4) (mgRow (LiS.g z4)) false)]) ∧ ((0 : Int) ≤ N ∧ N ≤ (2 : Int)) ∧ c_1 ≤ 9 ∧ ((0 : Int) ≤ a ∧ a ≤ (4611686018427365000 : Int)) ∧ (∀ (j : Nat), j < c_1 → MG.Sm (g_1 j)) ∧ ∀ (i : LiS), letI z3 := (LiS.a i + (1 : Int)); letI z2 := (↑(LiS.c i) : Int); letI z0 := (LiS.g i (Int.toNat (nextV n (vInt (intRow v)) z3 z2))); letI z1 := chunkA (TI.sz shrtE0) (.str (MG.dev z0) :: .int .i64 (MG.seq z0) :: .int .i64 (MG.kind z0) :: .str (VT.o (MG.v z0)) :: .str (VT.p (MG.v z0)) :: .int .i64 (VT.per (MG.v z0)) :: .int .i64 (VT.day (MG.v z0)) :: .int .i64 (VT.st (MG.v z0)) :: .int .i64 (VT.pr (MG.v z0)) :: .str (VT.rep (MG.v z0)) :: .str (DT.o (MG.d z0)) :: .str (DT.p (MG.d z0)) :: .int .i64 (DT.per (MG.d z0)) :: .str (DT.dev (MG.d z0)) :: .int .i64 (DT.num (MG.d z0)) :: List.append [] shrtE1); LiS.c i = c_1 + Int.toNat N → a ≤ LiS.a i ∧ LiS.a i ≤ a + (24 : Int) → (∀ (j : Nat), j < LiS.c i → MG.Sm (LiS.g i j)) → condP (decide ((0 : Int) < z2)) ((28 = 28 ∧ 1 = 1 ∧ intRow v = intRow (vInt (intRow v)) ∧ ((1 : Int) ≤ (2 : Int) ∧ (2 : Int) ≤ (1000000 : Int)) ∧ (0 : Int) ≤ LiS.a i ∧ LiS.a i ≤ z5) ∧ condP (decide (nextV n (vInt (intRow v)) (LiS.a i) (2 : Int) = (0 : Int))) ((28 = 28 ∧ 1 = 1 ∧ intRow v = intRow (vInt (intRow v)) ∧ ((1 : Int) ≤ z2 ∧ z2 ≤ (1000000 : Int)) ∧ (0 : Int) ≤ LiS.a i + (1 : Int) ∧ LiS.a i + (1 : Int) ≤ z5) ∧ ((0 : Int) ≤ nextV n (vInt (intRow v)) z3 z2 ∧ nextV n (vInt (intRow v)) z3 z2 < z2) ∧ (Int.toNat (nextV n (vInt (intRow v)) z3 z2) < LiS.c i ∧ 15 = 15) ∧ (15 ≤ 16777216 ∧ 15 = 15 ∧ 1 ≤ 9223372036854775807) ∧ ((1 ≤ 1 ∧ 15 = 15) ∧ LiS.c i ≤ LiS.c i ∧ 15 = 15 ∧ 56 = 56 ∧ 15 = 15 ∧ LiS.c i + 1 ≤ 9223372036854775807 ∧ (LiS.c i + 1) * TI.bytes shrtE0 ≤ 140737488355328) ∧ (∀ (i_1 : Nat), i_1 < LiS.c i + 1 → nrefL (apF (LiS.c i) (mgRow (LiS.g i)) z1 i_1) = true) ∧ ∃ (O' : List (Nat × AObj)), RowsEq [(0, .cells [.view 1 n (intRow v), .int .i64 (LiS.a i + (1 : Int) + (1 : Int))] 28), (1, .row 56 15 (LiS.c i + 1) (apF (LiS.c i) (mgRow (LiS.g i)) z1) false)] O' ∧ R (.own 1 (LiS.c i + 1)) O') ((∀ (i_1 : Nat), i_1 < LiS.c i → true = true) ∧ ∃ (O' : List (Nat × AObj)), RowsEq [(0, .cells [.view 1 n (intRow v), .int .i64 z3] 28), (1, .row 56 15 (LiS.c i) (mgRow (LiS.g i)) false)] O' ∧ R (.own 1 (LiS.c i)) O')) ((∀ (i_1 : Nat), i_1 < LiS.c i → true = true) ∧ ∃ (O' : List (Nat × AObj)), RowsEq [(0, .cells [.view 1 n (intRow v), .int .i64 (LiS.a i)] 28), (1, .row 56 15 (LiS.c i) (mgRow (LiS.g i)) false)] O' ∧ R (.own 1 (LiS.c i)) O')) := by kernel_rfl
theorem nf_li_round (n : Nat) (v : Nat → Int) (N : Int) (i : LiS) (P : LiS → Prop) (R : Exit → St → Prop) : roundP ⟨te, [(31, .rel R_sp11)], [], 1, 35, 0⟩ (loopB Tryz.f36 3) [0, 3, 7, 8] [0, 3] [] (S_li n v N) P R (S_li n v N i) = (condP (decide ((↑(LiS.j i) : Int) < N)) (28 = 28 ∧ 1 = 1 ∧ intRow v = intRow (vInt (intRow v)) ∧ ((0 : Int) ≤ LiS.a i ∧ LiS.a i ≤ (4611686018427380000 : Int)) ∧ ∀ (m : MG) (a' : Int), MG.Sm m → LiS.a i ≤ a' ∧ a' ≤ LiS.a i + (12 : Int) → (15 ≤ 16777216 ∧ 15 = 15 ∧ 1 ≤ 9223372036854775807) ∧ ((1 ≤ 1 ∧ 15 = 15) ∧ LiS.c i ≤ LiS.c i ∧ 15 = 15 ∧ 56 = 56 ∧ 15 = 15 ∧ LiS.c i + 1 ≤ 9223372036854775807 ∧ (LiS.c i + 1) * TI.bytes shrtE0 ≤ 140737488355328) ∧ inR .i64 ((↑(LiS.j i) : Int) + (1 : Int)) ∧ ∃ (i' : LiS), (TEq [(0, .ptr 0 0), (3, .own 1 (LiS.c i + 1)), (7, .int .i64 N), (8, .int .i64 ((↑(LiS.j i) : Int) + (1 : Int)))] [(0, .ptr 0 0), (3, .own 1 (LiS.c i')), (7, .int .i64 N), (8, .int .i64 (↑(LiS.j i') : Int))] ∧ RowsEq [(0, .cells [.view 1 n (intRow v), .int .i64 a'] 28), (1, .row 56 15 (LiS.c i + 1) (apF (LiS.c i) (mgRow (LiS.g i)) (chunkA (TI.sz shrtE0) (.str (MG.dev m) :: .int .i64 (MG.seq m) :: .int .i64 (MG.kind m) :: .str (VT.o (MG.v m)) :: .str (VT.p (MG.v m)) :: .int .i64 (VT.per (MG.v m)) :: .int .i64 (VT.day (MG.v m)) :: .int .i64 (VT.st (MG.v m)) :: .int .i64 (VT.pr (MG.v m)) :: .str (VT.rep (MG.v m)) :: .str (DT.o (MG.d m)) :: .str (DT.p (MG.d m)) :: .int .i64 (DT.per (MG.d m)) :: .str (DT.dev (MG.d m)) :: .int .i64 (DT.num (MG.d m)) :: List.append [] shrtE1))) false)] [(0, .cells [.view 1 n (intRow v), .int .i64 (LiS.a i')] 28), (1, .row 56 15 (LiS.c i') (mgRow (LiS.g i')) false)]) ∧ P i') ((∀ (i_1 : Nat), i_1 < LiS.c i → true = true) ∧ ∃ (O' : List (Nat × AObj)), RowsEq [(0, .cells [.view 1 n (intRow v), .int .i64 (LiS.a i)] 28), (1, .row 56 15 (LiS.c i) (mgRow (LiS.g i)) false)] O' ∧ R (.exit 0) (St.mk [(0, .ptr 0 0), (3, .own 1 (LiS.c i))] O' 2 []))) := by kernel_rfl
theorem getD_len {L : List (List UInt8)} {B : Nat} (h : ∀ s ∈ L, s.length ≤ B) (i : Nat) : (List.getD L i []).length ≤ B := by
  rw [List.getD_eq_getElem?_getD]
  cases q : L[i]? with
  | none => exact Nat.zero_le _
  | some s => exact h s (List.mem_of_getElem? q)
theorem MG.Made.sm {m : MG} (h : m.Made) : m.Sm := ⟨by have := h.dev; omega, by have := h.o; omega, by have := h.o'; omega, by have := h.dd; omega⟩
theorem sp11_ok (hP : C.P = Tryz.prog) : RSpecOK C 31 R_sp11 := by
  rintro args objs R h
  unfold R_sp11 at h
  split at h
  · rename_i sz n f a t
    obtain ⟨rfl, rfl, hf, ha, hR⟩ := h
    rw [hf] at hR ⊢
    generalize vInt f = v at *
    have hw : vInt (intRow v) = v := rfl
    refine RSpecOK.wpL (prg hP) [(46, .rel R_mmsg), (27, .det S_next)] [] 0 (.cons (mmsg_ok hP) (.cons (next_ok hP) .nil)) (hP ▸ Tryz.func31) rfl rfl rfl [] (by kernel_rfl) trivial ?_
    rw [nf_sp11, hw]
    refine ⟨rfl, rfl, rfl, by omega, fun m a' hm ha' => ?_⟩
    have sm := hm.sm
    have fin : ∀ (dev : List UInt8) (seq kind : Int) (o p : List UInt8) (per day st pr : Int) (rep o' p' : List UInt8) (per' : Int) (dd : List UInt8) (num a2 : Int), dev.length ≤ 30 → o.length ≤ 30 → o'.length ≤ 30 → dd.length ≤ 30 → (a' ≤ a2 ∧ a2 ≤ a' + 2) →
        R (.agg [.str dev, .int .i64 seq, .int .i64 kind, .str o, .str p, .int .i64 per, .int .i64 day, .int .i64 st, .int .i64 pr, .str rep, .str o', .str p', .int .i64 per', .str dd, .int .i64 num]) [(0, .cells [.view 1 n (intRow v), .int .i64 a2] 28)] := fun dev seq kind o p per day st pr rep o' p' per' dd num a2 l1 l2 l3 l4 ha2 =>
      hR ⟨dev, seq, kind, ⟨o, p, per, day, st, pr, rep⟩, ⟨o', p', per', dd, num⟩⟩ a2 ⟨by show dev.length < _; omega, by show o.length < _; omega, by show o'.length < _; omega, by show dd.length < _; omega⟩ (by omega)
    have d1 : m.dev.length ≤ 30 := by have := hm.dev; omega
    have d2 : m.v.o.length ≤ 30 := by have := hm.o; omega
    have d3 : m.d.o.length ≤ 30 := by have := hm.o'; omega
    have d4 : m.d.dev.length ≤ 30 := by have := hm.dd; omega
    have r2 := nextV_range (show (1 : Int) ≤ 2 by omega) n v (a' + 1)
    have r3 := nextV_range (show (1 : Int) ≤ 3 by omega) n v (a' + 1)
    have r4 := nextV_range (show (1 : Int) ≤ 4 by omega) n v (a' + 1)
    have r5 := nextV_range (show (1 : Int) ≤ 5 by omega) n v (a' + 1)
    have r7 := nextV_range (show (1 : Int) ≤ 7 by omega) n v (a' + 1)
    refine ⟨⟨rfl, rfl, rfl, ⟨by omega, by omega⟩, by omega, by omega⟩, ?_⟩
    have nx : ∀ k : Int, 1 ≤ k → k ≤ 1000000 → (28 = 28 ∧ 1 = 1 ∧ intRow v = intRow (vInt (intRow v)) ∧ (1 ≤ k ∧ k ≤ 1000000) ∧ 0 ≤ a' + 1 ∧ a' + 1 ≤ 4611686018427387904) := fun k k1 k2 => ⟨rfl, rfl, rfl, ⟨k1, k2⟩, by omega, by omega⟩
    have sz : ∀ k : Nat, k ≤ 100 → k ≤ 16777216 ∧ 1 = 1 ∧ k ≤ 9223372036854775807 := fun k hk => ⟨by omega, rfl, by omega⟩
    refine condP_dec (fun _ => ⟨sz 4 (by omega), nx 4 (by omega) (by omega), ⟨by omega, by omega⟩, ⟨by omega, rfl⟩, ⟨trivial, trivial⟩, fin _ _ _ _ _ _ _ _ _ _ _ _ _ _ _ _ (getD_len (by decide) _) d2 d3 d4 (by omega)⟩) (fun _ => ?_)
    refine condP_dec (fun _ => ⟨sz 4 (by omega), nx 4 (by omega) (by omega), ⟨by omega, by omega⟩, ⟨by omega, rfl⟩, ⟨trivial, trivial⟩, fin _ _ _ _ _ _ _ _ _ _ _ _ _ _ _ _ d1 d2 d3 d4 (by omega)⟩) (fun _ => ?_)
    refine condP_dec (fun _ => ⟨nx 4 (by omega) (by omega), ⟨trivial, trivial⟩, fin _ _ _ _ _ _ _ _ _ _ _ _ _ _ _ _ d1 d2 d3 d4 (by omega)⟩) (fun _ => ?_)
    refine condP_dec (fun _ => ⟨sz 2 (by omega), nx 2 (by omega) (by omega), ⟨by omega, by omega⟩, ⟨by omega, rfl⟩, ⟨trivial, trivial⟩, fin _ _ _ _ _ _ _ _ _ _ _ _ _ _ _ _ d1 (getD_len (by decide) _) d3 d4 (by omega)⟩) (fun _ => ?_)
    refine condP_dec (fun _ => ⟨sz 3 (by omega), nx 3 (by omega) (by omega), ⟨by omega, by omega⟩, ⟨by omega, rfl⟩, ⟨trivial, trivial⟩, fin _ _ _ _ _ _ _ _ _ _ _ _ _ _ _ _ d1 d2 d3 d4 (by omega)⟩) (fun _ => ?_)
    refine condP_dec (fun _ => ⟨sz 4 (by omega), nx 4 (by omega) (by omega), ⟨by omega, by omega⟩, ⟨by omega, rfl⟩, ⟨trivial, trivial⟩, fin _ _ _ _ _ _ _ _ _ _ _ _ _ _ _ _ d1 d2 d3 d4 (by omega)⟩) (fun _ => ?_)
    refine condP_dec (fun _ => ⟨sz 4 (by omega), nx 4 (by omega) (by omega), ⟨by omega, by omega⟩, ⟨by omega, rfl⟩, ⟨trivial, trivial⟩, fin _ _ _ _ _ _ _ _ _ _ _ _ _ _ _ _ d1 d2 d3 d4 (by omega)⟩) (fun _ => ?_)
    refine condP_dec (fun _ => ⟨nx 7 (by omega) (by omega), ⟨trivial, trivial⟩, fin _ _ _ _ _ _ _ _ _ _ _ _ _ _ _ _ d1 d2 d3 d4 (by omega)⟩) (fun _ => ?_)
    refine condP_dec (fun _ => ⟨sz 5 (by omega), nx 5 (by omega) (by omega), ⟨by omega, by omega⟩, ⟨by omega, rfl⟩, ⟨trivial, trivial⟩, fin _ _ _ _ _ _ _ _ _ _ _ _ _ _ _ _ d1 d2 d3 d4 (by omega)⟩) (fun _ => ?_)
    refine condP_dec (fun _ => ⟨sz 4 (by omega), nx 4 (by omega) (by omega), ⟨by omega, by omega⟩, ⟨by omega, rfl⟩, ⟨trivial, trivial⟩, fin _ _ _ _ _ _ _ _ _ _ _ _ _ _ _ _ d1 d2 d3 d4 (by omega)⟩) (fun _ => ?_)
    refine condP_dec (fun _ => ⟨sz 4 (by omega), nx 4 (by omega) (by omega), ⟨by omega, by omega⟩, ⟨by omega, rfl⟩, ⟨trivial, trivial⟩, fin _ _ _ _ _ _ _ _ _ _ _ _ _ _ _ _ d1 d2 d3 d4 (by omega)⟩) (fun _ => ?_)
    refine condP_dec (fun _ => ⟨sz 3 (by omega), nx 3 (by omega) (by omega), ⟨by omega, by omega⟩, ⟨by omega, rfl⟩, ⟨trivial, trivial⟩, fin _ _ _ _ _ _ _ _ _ _ _ _ _ _ _ _ d1 d2 d3 (getD_len (by decide) _) (by omega)⟩) (fun _ => ?_)
    exact ⟨⟨trivial, trivial⟩, fin _ _ _ _ _ _ _ _ _ _ _ _ _ _ _ _ d1 d2 d3 d4 (by omega)⟩
  · exact h.elim
theorem li_loop (hP : C.P = Tryz.prog) (n : Nat) (v : Nat → Int) : LoopOK C 1 35 (loopC Tryz.f36 3) (L_li n v) := by
  rintro st Q ⟨N, c, g, a, h0, hN, hc, ha, hs, hQ⟩
  refine LoopOK.mk (prg hP) [(31, .rel R_sp11)] 0 (.cons (sp11_ok hP) .nil) [0, 3, 7, 8] [0, 3] [] (S_li n v N) (fun i => (i.j : Int) ≤ N ∧ i.c = c + i.j ∧ (a ≤ i.a ∧ i.a ≤ a + 12 * i.j) ∧ ∀ j, j < i.c → (i.g j).Sm) (fun i => N.toNat - i.j) ⟨0, c, g, a⟩
    ⟨hN.1, rfl, by show a ≤ a ∧ a ≤ a + 12 * ((0 : Nat) : Int); omega, hs⟩ h0 (fun i hi => ?_) (fun i => ⟨fun _ _ => rfl, trivial⟩)
  obtain ⟨h1, h2, h3, h4⟩ := hi
  rw [nf_li_round]
  refine condP_dec (fun q => ?_) (fun q => ⟨fun _ _ => rfl, _, rowsEqR _, hQ i (by omega) (by omega) h4⟩)
  refine ⟨rfl, rfl, rfl, by omega, fun m a' hm ha' => ⟨⟨by omega, rfl, by omega⟩, ⟨⟨Nat.le_refl _, rfl⟩, Nat.le_refl _, rfl, rfl, rfl, by omega, ?_⟩, by simp only [inR]; omega, ⟨i.j + 1, i.c + 1, MG.put i.g i.c m, a'⟩, ⟨rfl, rfl, ⟨rfl, rfl, rfl, rfl, rfl, fun j hj => ?_⟩, trivial⟩, ⟨?_, ?_, ?_, fun j hj => ?_⟩, ?_⟩⟩
  · show (i.c + 1) * 176 ≤ _
    omega
  · exact mput_ap i.g i.c m _ rfl j hj
  · show ((i.j + 1 : Nat) : Int) ≤ N
    omega
  · show i.c + 1 = c + (i.j + 1)
    omega
  · show a ≤ a' ∧ a' ≤ a + 12 * ((i.j + 1 : Nat) : Int)
    omega
  · show (MG.put i.g i.c m j).Sm
    unfold MG.put
    by_cases h : j < i.c
    · rw [if_pos h]; exact h4 j h
    · rw [if_neg h]; exact hm
  · show N.toNat - (i.j + 1) < N.toNat - i.j
    omega
theorem list_ok (hP : C.P = Tryz.prog) : RSpecOK C 36 R_list := by
  rintro args objs R h
  unfold R_list at h
  split at h
  · rename_i sz n f a t
    obtain ⟨rfl, rfl, hf, ha, hR⟩ := h
    rw [hf] at hR ⊢
    generalize vInt f = v at *
    have hw : vInt (intRow v) = v := rfl
    refine ACalls.frzO 1 ?_
    refine RSpecOK.wpL (prg hP) [(71, .rel R_msgs), (27, .det S_next), (31, .rel R_sp11)] [(3, L_li n v)] 0 (.cons (msgs_ok hP) (.cons (next_ok hP) (.cons (sp11_ok hP) .nil))) (hP ▸ Tryz.func36) rfl rfl rfl [(loopC Tryz.f36 3, L_li n v)] (by kernel_rfl) ⟨li_loop hP n v, trivial⟩ ?_
    rw [nf_list, hw]
    refine ⟨rfl, rfl, rfl, by omega, ⟨by omega, by omega⟩, fun c g a' hc ha' hm => ?_⟩
    have hc : c ≤ 9 := hc
    have r := nextV_range (show (1 : Int) ≤ 3 by omega) n v a'
    refine ⟨fun _ _ => rfl, ⟨rfl, rfl, rfl, ⟨by omega, by omega⟩, by omega, by omega⟩, nextV n v a' 3, c, g, a' + 1, ⟨rfl, rfl, ⟨rfl, rfl, rfl, rfl, rfl, fun _ _ => rfl⟩, trivial⟩, ⟨by omega, by omega⟩, hc, ⟨by omega, by omega⟩, fun j hj => (hm j hj).sm, fun i h1 h2 h3 => ?_⟩
    have fin : ∀ (k : Nat) (h : Nat → MG) (a2 : Int), k ≤ 12 → (a ≤ a2 ∧ a2 ≤ a + 1100) → (∀ j, j < k → (h j).Sm) → frzO 1 R (.own 1 k) [(0, .cells [.view 1 n (intRow v), .int .i64 a2] 28), (1, .row 56 15 k (mgRow h) false)] := fun k h a2 k1 k2 k3 => by
      have hb : Nat.ble k k = true := Nat.ble_eq_true_of_le (Nat.le_refl _)
      refine ⟨fun _ _ => rfl, ?_⟩
      have e : frzC 1 15 k (mgRow h) (.own 1 k) = .view 15 k (mgRow h) := by simp [frzC, frzA, frz, hb]
      rw [e]
      exact hR k h a2 k1 k2 k3
    have no : ∀ a2 : Int, (i.a ≤ a2 ∧ a2 ≤ i.a + 2) → frzO 1 R (.own 1 i.c) [(0, .cells [.view 1 n (intRow v), .int .i64 a2] 28), (1, .row 56 15 i.c (mgRow i.g) false)] := fun a2 k => fin i.c i.g a2 (by omega) (by omega) h3
    refine condP_dec (fun q1 => ⟨⟨rfl, rfl, rfl, ⟨by omega, by omega⟩, by omega, by omega⟩, condP_dec (fun q2 => ?_) (fun q2 => ⟨fun _ _ => rfl, _, rowsEqR _, no _ (by omega)⟩)⟩) (fun q1 => ⟨fun _ _ => rfl, _, rowsEqR _, no _ (by omega)⟩)
    have r2 := nextV_range (show (1 : Int) ≤ (i.c : Int) by omega) n v (i.a + 1)
    refine ⟨⟨rfl, rfl, rfl, ⟨by omega, by omega⟩, by omega, by omega⟩, ⟨by omega, by omega⟩, ⟨by omega, rfl⟩, ⟨by omega, rfl, by omega⟩, ⟨⟨Nat.le_refl _, rfl⟩, Nat.le_refl _, rfl, rfl, rfl, by omega, ?_⟩, fun j hj => ?_, [(0, .cells [.view 1 n (intRow v), .int .i64 (i.a + 1 + 1)] 28), (1, .row 56 15 (i.c + 1) (mgRow (MG.put i.g i.c (i.g (nextV n v (i.a + 1) (i.c : Int)).toNat))) false)], ⟨rfl, ⟨rfl, rfl, rfl, rfl, rfl, fun j hj => ?_⟩, trivial⟩, fin _ _ _ (by omega) (by omega) (fun j hj => ?_)⟩
    · show (i.c + 1) * 176 ≤ _
      omega
    · rw [mput_ap i.g i.c (i.g (nextV n v (i.a + 1) (i.c : Int)).toNat) _ rfl j hj]; rfl
    · exact mput_ap i.g i.c (i.g (nextV n v (i.a + 1) (i.c : Int)).toNat) _ rfl j hj
    · unfold MG.put
      by_cases h : j < i.c
      · rw [if_pos h]; exact h3 j h
      · rw [if_neg h]; exact h3 _ (by omega)
  · exact h.elim
end Go.Eng
namespace Go.Eng
theorem mgOfM {f : Nat → List AV} {i : Nat} {m : MG} (h : f i = mgC m) : mgOf f i = m := by unfold mgOf; rw [h]; rfl
theorem cellsM {f : Nat → List AV} {i : Nat} {m : MG} (h : f i = mgC m) : f i = mgRow (mgOf f) i ∧ nrefL (f i) = true := by
  refine ⟨?_, by rw [h]; rfl⟩
  show f i = mgC (mgOf f i)
  rw [mgOfM h]; exact h
theorem oneI {p : Nat → Prop} (h0 : p 0) : ∀ i, i < 1 → p i := fun i hi => by
  match i, hi with
  | 0, _ => exact h0
theorem cutM_sm (g : Nat → MG) (i : Nat) : (cutM g i).Sm := by
  refine ⟨?_, ?_, ?_, ?_⟩
  · show ((g i).dev.take 30).length < _
    rw [List.length_take]; omega
  · show ((g i).v.o.take 30).length < _
    rw [List.length_take]; omega
  · show ((g i).d.o.take 30).length < _
    rw [List.length_take]; omega
  · show ((g i).d.dev.take 30).length < _
    rw [List.length_take]; omega
end Go.Eng
namespace Go.Eng
open Go.Proofs Go.RowKit
variable {H : Type} {enc : TypeId × Value → H}
theorem handed_and_shaped {a : Assume} {C : Checked} {os : Os} {f : FuncId} {fn : Func} {s : ChangeSpec} {conds : List PathCond} {apart fresh handsOn again : Bool} {X : World → Array Value → Prop}
    (hX : ∀ (w w' : World) (args : Array Value), w.heap = w'.heap → X w args → X w' args)
    (own : ownKnob C.prog.godebug = none) (started : os.Started) (noInit : C.prog.inits.idxOf? f = none) (hfn : C.prog.funcs[f]? = some fn)
    (witness : ∃ (w : World) (tape : Tape) (i : Input), w.os = os ∧ (w.forCall tape i).Shaped C.prog ∧ i.vars = [] ∧ Input.okWide C.prog (w.forCall tape i) .any w.heap.size f i ∧
      ((s.pre enc C.prog fn conds apart (w.forCall tape i).memory i.args ∧ X (w.forCall tape i).memory i.args) ∧ sizedMet enc C.prog fn (OpenSpec.ofChange s) apart (w.forCall tape i).memory i.args) ∧ a.holds C.prog (lone (Frame.enter C.prog f i.args .normal) [] (w.forCall tape i)))
    (contract : ∀ (W : World) (base : Nat) (args : Array Value) (ds gs : List (DataW H)) (before : List MemPlace),
      (∀ (j : Nat) t v, fn.params[j]? = some t → args[j]? = some v → Value.okWide C.prog W .any base t v) →
      DataW.Whole enc C.prog fn.params.toList s.vars apart W args.toList ds gs before → X W args → W.ShapedOpen C.prog →
      Calls C.prog f args W fun e W' => ∃ v, e = .returned v ∧ s.post enc C.prog fn apart fresh handsOn again W args v W') :
    ReturnsInHanded a C os f .any (fun w args => (s.pre enc C.prog fn conds apart w args ∧ X w args) ∧ sizedMet enc C.prog fn (OpenSpec.ofChange s) apart w args) (s.post enc C.prog fn apart fresh handsOn again) := by
  refine returnsInHanded_of_calls own started noInit witness ?_
  intro w tape i _ hsh _ hok hpre _
  obtain ⟨_, _, _, fn', hfn', _, _, _, _, hval⟩ := hok
  have e : fn' = fn := Option.some.inj (hfn'.symm.trans hfn)
  subst e
  obtain ⟨⟨⟨ds, gs, before, hw, _⟩, hx⟩, _⟩ := hpre
  have hw' := DataW.Whole.of_heap (w' := w.forCall tape i) (by rfl) hw
  have hx' := hX _ (w.forCall tape i) i.args (by rfl) hx
  refine (contract (w.forCall tape i) w.heap.size i.args ds gs before hval hw' hx' hsh).mono fun e W' ⟨v, he, hp⟩ => ?_
  subst he
  exact ChangeSpec.post_blind hp
theorem ADet.top {C : Ctx} {f : FuncId} {args : List AV} {b : Bool} (h : ADet C f args [] (.bool b) []) {w : World} (hl : C.laid w) (hg : C.gsz ≤ w.heap.size) {cargs : List Value} (hlen : cargs.length = args.length)
    (hV : ∀ (j : Nat) v u, cargs[j]? = some v → args[j]? = some u → V w (fun _ => False) nob v u) : Calls C.P f cargs.toArray w fun e w' => e = .returned (.bool b) ∧ Below w.heap.size w w' := by
  have no : ∀ r, lkL [] r = none := fun r => by cases r <;> rfl
  have nm : ∀ b', ¬ mutB (lkL []) nob b' := by
    rintro b' ⟨r, o, c, ho, _⟩
    rw [no r] at ho; cases ho
  have hw : WRep C ⟨w, 0, nob, fun _ => False, fun _ => False⟩ (lkL []) nob w := {
    obj := fun r o ho => by rw [no r] at ho; cases ho
    sep := fun r r' o o' b c c' ho => by rw [no r] at ho; cases ho
    out := fun b hb => absurd hb (nm b)
    frz := fun r t sz n f b c ho => by rw [no r] at ho; cases ho
    high := fun b hb => by
      rcases hb with hb | hb
      · exact hb.elim
      · exact absurd hb (nm b)
    lt := fun r b c hb => by simp [nob] at hb
    outlt := fun b hb => hb.elim
    keep := fun b _ _ => rfl
    old := fun b hb => absurd hb (nm b)
    size := Nat.le_refl _
    pre := fun r x hr => absurd hr (Nat.not_lt_zero r)
    os := rfl
    tape := .refl _ _
    output := rfl
    laid := hl
    gle := hg }
  refine (h.2 ⟨w, 0, nob, fun _ => False, fun _ => False⟩ nob w cargs rfl rfl rfl hw (fun _ _ => rfl) hlen (fun j v u hv hu => (hV j v u hv hu).step_ (fun b _ _ hb => ?_) (fun _ _ _ => rfl) (Nat.le_refl _) nob (fun _ _ h => h))).mono ?_
  · rcases hb with hb | hb
    · exact hb
    · exact nm b hb
  · rintro e w' ⟨v, u, O', bs', rfl, ⟨rfl, rfl⟩, hw', hV', _⟩
    cases hV'
    exact ⟨rfl, hw'.os, hw'.tape.tape, hw'.output, hw'.size, fun i hi => hw'.keep i hi (fun h => h)⟩
theorem V_view {W : World} {A : Option Addr} {n c sz : Nat} (g : Nat → List AV) (hn : n ≤ c) (hc : c ≤ maxLen) (hl : ∀ i, i < n → (g i).length = sz)
    (h : n = 0 ∨ ∃ ad, A = some ad ∧ ad.block < W.heap.size ∧ ∀ i, i < n → ∀ j, j < sz → ∃ v, W.cell? (ad.add (i * sz + j)) = some v ∧ v.oneCell' = true ∧ ∀ u, (g i)[j]? = some u → V W (fun _ => False) nob v u) : V W (fun _ => False) nob (.slice A n c) (.view sz n g) := by
  rcases h with rfl | ⟨ad, rfl, hb, h⟩
  · exact .view ⟨0, 0, none⟩ (fun _ _ => default) hn hc (fun h => absurd h (by omega)) hl (fun i hi => by omega) (fun i hi => by omega) (fun i hi => by omega)
  · have hj : ∀ i, i < n → ∀ j u, (g i)[j]? = some u → j < sz := fun i hi j u hu => by
      have := (List.getElem?_eq_some_iff.1 hu).1
      rw [hl i hi] at this; exact this
    refine .view ad (fun i j => (W.cell? (ad.add (i * sz + j))).getD default) hn hc (fun _ => ⟨rfl, fun h => h, hb⟩) hl (fun i hi j hj => ?_) (fun i hi j hj => ?_) (fun i hi j u hu => ?_)
    · obtain ⟨v, h1, _⟩ := h i hi j hj
      rw [h1]; rfl
    · obtain ⟨v, h1, h2, _⟩ := h i hi j hj
      rw [h1]; exact h2
    · obtain ⟨v, h1, _, h3⟩ := h i hi j (hj i hi j u hu)
      rw [h1]; exact h3 u hu
end Go.Eng
namespace Go.Eng
open Go.Proofs Go.RowKit
variable {H : Type} {enc : TypeId × Value → H} {W : World}
noncomputable def fsOf (t : TypeId) : Array Field := match Tryz.prog.underlying t with
  | some (.struct fs) => fs
  | _ => #[]
theorem undIs : Tryz.prog.underlying 23 = some (.slice 3) := by kernel_rfl
theorem undI : Tryz.prog.underlying 3 = some (.int .i64) := by kernel_rfl
theorem undI2 : Tryz.prog.underlying 2 = some (.int .i64) := by kernel_rfl
theorem undS : Tryz.prog.underlying 9 = some .string := by kernel_rfl
theorem cI : Tryz.prog.cellsOf 3 = 1 := by kernel_rfl
theorem cI2 : Tryz.prog.cellsOf 2 = 1 := by kernel_rfl
theorem cS : Tryz.prog.cellsOf 9 = 1 := by kernel_rfl
theorem field {t : TypeId} {n : Nat} {cs : List Value} {xs : List (DataW H × List MemPlace)} {sp : Nat → Bool} {hd : Bool} (hl : xs.length = (fsOf t).size)
    (h : ∀ (i : Nat) (f : Field), (fsOf t)[i]? = some f → DataW.trod enc Tryz.prog W 0 sp hd n f.type ((cs.drop f.offset).take (Tryz.prog.cellsOf f.type)) = xs[i]?)
    (i : Nat) (ty : TypeId) (off : Nat) (hf : ((fsOf t)[i]?).map (fun f => (f.type, f.offset)) = some (ty, off)) : ∃ y, DataW.trod enc Tryz.prog W 0 sp hd n ty ((cs.drop off).take (Tryz.prog.cellsOf ty)) = some y := by
  obtain ⟨f, hf1, hf2⟩ := Option.map_eq_some_iff.1 hf
  simp only [Prod.mk.injEq] at hf2
  obtain ⟨rfl, rfl⟩ := hf2
  have hi : i < xs.length := by rw [hl]; exact (Array.getElem?_eq_some_iff.1 hf1).1
  exact ⟨xs[i], by rw [h i f hf1]; simp [hi]⟩
theorem addr_add (a : Addr) (i j : Nat) : (a.add i).add j = a.add (i + j) := by
  obtain ⟨b, o, e⟩ := a
  by_cases h1 : i = 0 <;> by_cases h2 : j = 0 <;> simp [Addr.add, h1, h2, Nat.add_assoc]
theorem add_block (a : Addr) (i : Nat) : (a.add i).block = a.block := by
  unfold Addr.add
  split <;> rfl
theorem read_ints {fuel : Nat} {cs : List Value} {x : DataW H × List MemPlace} {sp : Nat → Bool} {hd : Bool} (h : DataW.trod enc Tryz.prog W 0 sp hd fuel 23 cs = some x) :
    ∃ (A : Option Addr) (n c : Nat) (v : Nat → Int), cs = [.slice A n c] ∧ V W (fun _ => False) nob (.slice A n c) (.view 1 n (fun i => [.int .i64 (v i)])) := by
  rcases DataW.trod_slice undIs h with ⟨rfl, _⟩ | ⟨a, len, cap, elems, rest, n, _, rfl, _, hb, hl, hm, hlen, hel, _⟩
  · exact ⟨none, 0, 0, fun _ => 0, rfl, V_view _ (Nat.le_refl _) (Nat.zero_le _) (fun i hi => by omega) (.inl rfl)⟩
  · have hat : ∀ i, i < len → ∃ z, W.cell? (a.add i) = some (.int .i64 z) := by
      intro i hi
      have h1 := hel i hi
      rw [cI, Nat.mul_one, List.getElem?_eq_getElem (by omega), Option.bind_eq_some_iff] at h1
      obtain ⟨cs', hcs, hy⟩ := h1
      obtain ⟨z, rfl, _⟩ := DataW.trod_int undI hy
      obtain ⟨_, _, h2⟩ := World.cells?_some hcs
      have q0 := h2 0 (by omega)
      rw [addr_add, Nat.add_zero] at q0
      exact ⟨z, q0⟩
    refine ⟨some a, len, cap, fun i => match W.cell? (a.add i) with | some (.int .i64 z) => z | _ => 0, rfl, V_view _ hl hm (fun _ _ => rfl) ?_⟩
    by_cases h0 : len = 0
    · exact .inl h0
    · refine .inr ⟨a, rfl, ?_, fun i hi j hj => ?_⟩
      · have h1 := hel 0 (by omega)
        rw [List.getElem?_eq_getElem (show 0 < elems.length by omega), Option.bind_eq_some_iff] at h1
        obtain ⟨cs', hcs, _⟩ := h1
        rw [cI] at hcs
        have q := World.cells?_block hcs (by omega)
        rw [add_block] at q
        exact q
      · obtain rfl : j = 0 := by omega
        obtain ⟨z, hz⟩ := hat i hi
        rw [Nat.mul_one, Nat.add_zero]
        refine ⟨_, hz, rfl, fun u hu => ?_⟩
        dsimp only at hu
        rw [hz] at hu
        obtain rfl := Option.some.inj hu
        exact .int
end Go.Eng
namespace Go.Eng
open Go.Proofs Go.RowKit
variable {H : Type} {enc : TypeId × Value → H} {W : World}
theorem trod_iface {P : Program} {w : World} {base fuel : Nat} {t : TypeId} {ms} {cs : List Value} {name : String} {d : DataW H} {p : List MemPlace} {sp : Nat → Bool} {hd : Bool} (ht : P.underlying t = some (.interface ms))
    (h : DataW.trod enc P w base sp hd fuel t cs = some (.iface name d, p)) : ∃ u v, cs = [.iface u v] := by
  cases fuel with
  | zero => simp [DataW.trod] at h
  | succ n =>
    unfold DataW.trod at h
    rw [ht] at h
    split at h <;> simp_all
theorem laid_iface {n : String} {g : Nat} {t : TypeId} {ms} {w : World} {name : String} {d : DataW Unit} {r : List (String × DataW Unit)} {ps : List MemPlace} (hg : Tryz.prog.globalNamed n = some g) (ht : (Tryz.prog.globals[g]?).map (·.type) = some t) (hu : Tryz.prog.underlying t = some (.interface ms))
    (h : DataW.LaidVars Tryz.prog w ((n, .iface name d) :: r) ps) : ∃ u v, w.cell? ⟨g, 0, none⟩ = some (.iface u v) := by
  obtain ⟨g', t', cs, fuel, p, q, hg', ht', hv, htr, _, _⟩ := h
  obtain rfl := Option.some.inj (hg.symm.trans hg')
  obtain rfl := Option.some.inj (ht.symm.trans ht')
  obtain ⟨u, v, hc⟩ := trod_iface hu htr
  have := World.var?_cell hg hv 0
  refine ⟨u, v, this.trans ?_⟩
  rw [← Array.getElem?_toList, hc]; rfl
theorem laid_tail {w : World} {x : String × DataW Unit} {r : List (String × DataW Unit)} {ps : List MemPlace} (h : DataW.LaidVars Tryz.prog w (x :: r) ps) : ∃ q, DataW.LaidVars Tryz.prog w r q := by
  obtain ⟨_, _, _, _, _, q, _, _, _, _, h, _⟩ := h
  exact ⟨q, h⟩
theorem maxLen_of {w : World} (h : w.ShapedOpen Tryz.prog) : ∃ m, w.cell? ⟨0, 0, none⟩ = some (.int .i64 m) :=
  cell_of_shapedOpen_int (t := 3) (zero := #[.int .i64 0]) h (of_decide_eq_true (by kernel_rfl)) (by kernel_rfl) rfl (by kernel_rfl) (by kernel_rfl) (by kernel_rfl)
noncomputable def msE : Array (String × TypeId) := match Tryz.prog.underlying 181 with
  | some (.interface ms) => ms
  | _ => #[]
theorem gErrS : Tryz.prog.globalNamed "strconv.ErrSyntax" = some 3 := by kernel_rfl
theorem gErrR : Tryz.prog.globalNamed "strconv.ErrRange" = some 4 := by kernel_rfl
theorem laidW_of {w : World} (hL : laidMetH Tryz.prog Go.Proofs.YtokpcnppihgdlaaGreatDoor.Rows.scannerValidRow.laid w) (hsh : w.ShapedOpen Tryz.prog) : LaidW w := by
  have h' : laidMet Tryz.prog Go.Proofs.YtokpcnppihgdlaaGreatDoor.Rows.scannerValidRow.laid w := hL
  obtain ⟨ps, h0, _⟩ := h'
  obtain ⟨_, h1⟩ := laid_tail h0
  obtain ⟨_, h2⟩ := laid_tail h1
  obtain ⟨_, h3⟩ := laid_tail h2
  obtain ⟨_, h4⟩ := laid_tail h3
  obtain ⟨_, h5⟩ := laid_tail h4
  exact ⟨maxLen_of hsh, laid_iface gErrS (t := 181) (ms := msE) (by kernel_rfl) (by kernel_rfl) h5, laid_iface gErrR (t := 181) (ms := msE) (by kernel_rfl) (by kernel_rfl) h4⟩
end Go.Eng
