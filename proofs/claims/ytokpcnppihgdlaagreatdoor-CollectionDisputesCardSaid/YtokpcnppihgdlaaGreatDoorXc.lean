/- The tied card of CollectionDisputes: its statement is 'CollectionDisputesCardSaid' of the given cards. -/
import Derived.Test.YtokpcnppihgdlaaGreatDoorEy
import Derived.Test.YtokpcnppihgdlaaGreatDoorXb
import Derived.Test.YtokpcnppihgdlaaGreatDoorEza
import Derived.Test.YtokpcnppihgdlaaGreatDoorXa
import Derived.Test.YtokpcnppihgdlaaGreatDoorEz
import Derived.Test.YtokpcnppihgdlaaGreatDoorEzb
namespace Go.Eng
open Go.Proofs Go.RowKit
variable {C : Ctx} [C.Loose]
set_option maxRecDepth 20000
theorem nf_lds (n : Nat) (v : Nat → Int) (R : AV → List (Nat × AObj) → Prop) : wpFn te [(27, .det S_next), (43, .det S_id), (41, .det S_resolve), (42, .det S_resolve), (35, .det S_awake11)] [(5, L_ds (idF 0) n v 1 (nextV n v 0 9))] 0 Tryz.f11 [.view 1 n (intRow v)] [] R = (letI z4 := (Int.toNat ((48 : Int) + Prod.fst (cdF (id7 (0 : Int))))); letI z3 := (MgS.mk 0 (fun (_x : Nat) => default) (1 : Int)); letI z1 := ([.str [(111 : UInt8), 49], .str [UInt8.ofNat (Int.toNat (intOf (List.headD (idRow (idV (0 : Int)) (nat_lit 0)) .any))), UInt8.ofNat (Int.toNat (intOf (List.headD (idRow (idV (0 : Int)) (nat_lit 1)) .any))), UInt8.ofNat (Int.toNat (intOf (List.headD (idRow (idV (0 : Int)) (nat_lit 2)) .any))), UInt8.ofNat (Int.toNat (intOf (List.headD (idRow (idV (0 : Int)) (nat_lit 3)) .any))), UInt8.ofNat (Int.toNat (intOf (List.headD (idRow (idV (0 : Int)) (nat_lit 4)) .any))), UInt8.ofNat (Int.toNat (intOf (List.headD (idRow (idV (0 : Int)) (nat_lit 5)) .any))), UInt8.ofNat (Int.toNat (intOf (List.headD (idRow (idV (0 : Int)) (nat_lit 6)) .any))), UInt8.ofNat z4], .int .i64 1440, .int .i64 43830, .int .i64 1, .int .i64 0, .str []] : List AV); True ∧ (28 = 28 ∧ 1 = 1 ∧ intRow v = intRow (vInt (intRow v)) ∧ ((1 : Int) ≤ (9 : Int) ∧ (9 : Int) ≤ (1000000 : Int)) ∧ (0 : Int) ≤ (0 : Int) ∧ (0 : Int) ≤ (4611686018427387904 : Int)) ∧ (TEq [(3, .ptr 0 0), (4, .ptr 1 0), (5, .own 2 0), (17, .int .i64 (nextV n (vInt (intRow v)) (0 : Int) (9 : Int))), (18, .int .i64 0)] [(3, .ptr 0 0), (4, .ptr 1 0), (5, .own 2 0), (17, .int .i64 (nextV n v (0 : Int) (9 : Int))), (18, .int .i64 (↑(MgS.c z3) : Int))] ∧ RowsEq [(0, .cells [.view 1 n (intRow v), .int .i64 ((0 : Int) + (1 : Int))] 28), (1, .cells z1 52), (2, .row 56 15 0 (fun (_x : Nat) => []) false)] [(0, .cells [.view 1 n (intRow v), .int .i64 (MgS.a z3)] 28), (1, .cells z1 52), (2, .row 56 15 0 (mgRow (MgS.g z3)) false)]) ∧ ((0 : Int) ≤ nextV n v (0 : Int) (9 : Int) ∧ nextV n v (0 : Int) (9 : Int) ≤ (9 : Int)) ∧ ((0 : Int) ≤ (1 : Int) ∧ (1 : Int) ≤ (1000 : Int)) ∧ ∀ (i : MgS), letI z2 := (MgS.c i ≤ 100000 ∧ mgRow (MgS.g i) = mgRow (mgOf (mgRow (MgS.g i))) ∧ ∀ (i_1 : Nat), i_1 < MgS.c i → MG.Sm (mgOf (mgRow (MgS.g i)) i_1)); letI z0 := (resF (mgOf (mgRow (MgS.g i))) (MgS.c i) [(111 : UInt8), 49] [(fun (i : Nat) => UInt8.ofNat (Int.toNat (intOf (List.headD (idRow (idV (0 : Int)) i) .any)))) (nat_lit 0), (fun (i : Nat) => UInt8.ofNat (Int.toNat (intOf (List.headD (idRow (idV (0 : Int)) i) .any)))) (nat_lit 1), (fun (i : Nat) => UInt8.ofNat (Int.toNat (intOf (List.headD (idRow (idV (0 : Int)) i) .any)))) (nat_lit 2), (fun (i : Nat) => UInt8.ofNat (Int.toNat (intOf (List.headD (idRow (idV (0 : Int)) i) .any)))) (nat_lit 3), (fun (i : Nat) => UInt8.ofNat (Int.toNat (intOf (List.headD (idRow (idV (0 : Int)) i) .any)))) (nat_lit 4), (fun (i : Nat) => UInt8.ofNat (Int.toNat (intOf (List.headD (idRow (idV (0 : Int)) i) .any)))) (nat_lit 5), (fun (i : Nat) => UInt8.ofNat (Int.toNat (intOf (List.headD (idRow (idV (0 : Int)) i) .any)))) (nat_lit 6), UInt8.ofNat z4] (1440 : Int)); MgS.c i ≤ 9 → (∀ (j : Nat), j < MgS.c i → MG.Sm (MgS.g i j)) → z2 ∧ z2 ∧ condP (decide (VT.o (Prod.fst z0) = VT.o (Prod.fst z0)) && (decide (VT.p (Prod.fst z0) = VT.p (Prod.fst z0)) && (decide (VT.per (Prod.fst z0) = VT.per (Prod.fst z0)) && (decide (VT.day (Prod.fst z0) = VT.day (Prod.fst z0)) && (decide (VT.st (Prod.fst z0) = VT.st (Prod.fst z0)) && (decide (VT.pr (Prod.fst z0) = VT.pr (Prod.fst z0)) && decide (VT.rep (Prod.fst z0) = VT.rep (Prod.fst z0)))))))) (condP (decide (Prod.snd z0 = Prod.snd z0)) (True ∧ R (.bool true) []) (R (.bool false) [])) (R (.bool false) [])) := by kernel_rfl
def shrtX0 : TI := (TI.mk (TypeDesc.struct #[Field.mk "Device" (9 : TypeId) 0 false "" "" 0, Field.mk "Sequence" (3 : TypeId) 1 false "" "" 16, Field.mk "Kind" (3 : TypeId) 2 false "" "" 24, Field.mk "Visit" (52 : TypeId) 3 false "" "" 32, Field.mk "Decision" (54 : TypeId) 10 false "" "" 112]) 15 176 (Value.agg #[Value.string (ByteArray.mk #[]), Value.int IntKind.i64 0, Value.int IntKind.i64 0, Value.string (ByteArray.mk #[]), Value.string (ByteArray.mk #[]), Value.int IntKind.i64 0, Value.int IntKind.i64 0, Value.int IntKind.i64 0, Value.int IntKind.i64 0, Value.string (ByteArray.mk #[]), Value.string (ByteArray.mk #[]), Value.string (ByteArray.mk #[]), Value.int IntKind.i64 0, Value.string (ByteArray.mk #[]), Value.int IntKind.i64 0]) true)
theorem nf_ds_round (p : List UInt8) (n : Nat) (v : Nat → Int) (N : Int) (i : MgS) (P : MgS → Prop) (R : Exit → St → Prop) : roundP ⟨te, [(27, .det S_next), (44, .det S_device)], [], 0, 90, 0⟩ (loopB Tryz.f11 5) [3, 4, 5, 17, 18] [4, 5] [] (S_ds p n v N) P R (S_ds p n v N i) = (letI z7 := (devF (nextV n (vInt (intRow v)) (MgS.a i) (3 : Int))); letI z6 := (↑(MgS.c i) : Int); letI z5 := (MgS.a i + (1 : Int) + (1 : Int) + (1 : Int) + (1 : Int)); letI z4 := (MgS.a i + (1 : Int) + (1 : Int) + (1 : Int) + (1 : Int) + (1 : Int)); letI z3 := (4611686018427387904 : Int); letI z2 := ([(3, .ptr 0 0), (4, .ptr 1 0), (5, .own 2 (MgS.c i + 1)), (17, .int .i64 N), (18, .int .i64 (z6 + (1 : Int)))] : List (Nat × AV)); letI z1 := (List.flatten (List.replicate (nat_lit 0) [.str ([]), .int .i64 0, .int .i64 0, .str ([]), .str ([]), .int .i64 0, .int .i64 0, .int .i64 0, .int .i64 0, .str ([]), .str ([]), .str ([]), .int .i64 0, .str ([]), .int .i64 0]) : List AV); letI z0 := ([.str [(111 : UInt8), 49], .str p, .int .i64 1440, .int .i64 43830, .int .i64 1, .int .i64 0, .str []] : List AV); condP (decide (z6 < N)) ((28 = 28 ∧ 1 = 1 ∧ intRow v = intRow (vInt (intRow v)) ∧ (0 : Int) ≤ MgS.a i ∧ MgS.a i ≤ (4611686018427387000 : Int)) ∧ (28 = 28 ∧ 1 = 1 ∧ intRow v = intRow (vInt (intRow v)) ∧ ((1 : Int) ≤ (5 : Int) ∧ (5 : Int) ≤ (1000000 : Int)) ∧ (0 : Int) ≤ MgS.a i + (1 : Int) ∧ MgS.a i + (1 : Int) ≤ z3) ∧ inR .i64 ((1 : Int) + nextV n (vInt (intRow v)) (MgS.a i + (1 : Int)) (5 : Int)) ∧ (28 = 28 ∧ 1 = 1 ∧ intRow v = intRow (vInt (intRow v)) ∧ ((1 : Int) ≤ (2 : Int) ∧ (2 : Int) ≤ (1000000 : Int)) ∧ (0 : Int) ≤ MgS.a i + (1 : Int) + (1 : Int) ∧ MgS.a i + (1 : Int) + (1 : Int) ≤ z3) ∧ inR .i64 ((100 : Int) + nextV n (vInt (intRow v)) (MgS.a i + (1 : Int) + (1 : Int)) (2 : Int)) ∧ (28 = 28 ∧ 1 = 1 ∧ intRow v = intRow (vInt (intRow v)) ∧ ((1 : Int) ≤ (3 : Int) ∧ (3 : Int) ≤ (1000000 : Int)) ∧ (0 : Int) ≤ MgS.a i + (1 : Int) + (1 : Int) + (1 : Int) ∧ MgS.a i + (1 : Int) + (1 : Int) + (1 : Int) ≤ z3) ∧ condP (decide (nextV n (vInt (intRow v)) (MgS.a i + (1 : Int) + (1 : Int) + (1 : Int)) (3 : Int) = (0 : Int))) ((28 = 28 ∧ 1 = 1 ∧ intRow v = intRow (vInt (intRow v)) ∧ (0 : Int) ≤ MgS.a i + (1 : Int) + (1 : Int) + (1 : Int) + (1 : Int) ∧ MgS.a i + (1 : Int) + (1 : Int) + (1 : Int) + (1 : Int) ≤ (4611686018427387000 : Int)) ∧ (28 = 28 ∧ 1 = 1 ∧ intRow v = intRow (vInt (intRow v)) ∧ ((1 : Int) ≤ (5 : Int) ∧ (5 : Int) ≤ (1000000 : Int)) ∧ (0 : Int) ≤ MgS.a i + (1 : Int) + (1 : Int) + (1 : Int) + (1 : Int) + (1 : Int) ∧ MgS.a i + (1 : Int) + (1 : Int) + (1 : Int) + (1 : Int) + (1 : Int) ≤ z3) ∧ inR .i64 ((1 : Int) + nextV n (vInt (intRow v)) z4 (5 : Int)) ∧ (15 ≤ 16777216 ∧ 15 = 15 ∧ 1 ≤ 9223372036854775807) ∧ ((1 ≤ 1 ∧ 15 = 15) ∧ MgS.c i ≤ MgS.c i ∧ 15 = 15 ∧ 56 = 56 ∧ 15 = 15 ∧ MgS.c i + 1 ≤ 9223372036854775807 ∧ (MgS.c i + 1) * TI.bytes shrtX0 ≤ 140737488355328) ∧ inR .i64 (z6 + (1 : Int)) ∧ ∃ (i' : MgS), (TEq z2 [(3, .ptr 0 0), (4, .ptr 1 0), (5, .own 2 (MgS.c i')), (17, .int .i64 N), (18, .int .i64 (↑(MgS.c i') : Int))] ∧ RowsEq [(0, .cells [.view 1 n (intRow v), .int .i64 (MgS.a i + (1 : Int) + (1 : Int) + (1 : Int) + (1 : Int) + (1 : Int) + (1 : Int))] 28), (1, .cells z0 52), (2, .row 56 15 (MgS.c i + 1) (apF (MgS.c i) (mgRow (MgS.g i)) (chunkA (TI.sz shrtX0) (.str z7 :: .int .i64 ((1 : Int) + nextV n (vInt (intRow v)) (MgS.a i + (1 : Int)) (5 : Int)) :: .int .i64 2 :: .str [] :: .str [] :: .int .i64 0 :: .int .i64 0 :: .int .i64 0 :: .int .i64 0 :: .str [] :: .str [(111 : UInt8), 49] :: .str p :: .int .i64 1440 :: .str (devF (nextV n (vInt (intRow v)) z5 (3 : Int))) :: .int .i64 ((1 : Int) + nextV n (vInt (intRow v)) z4 (5 : Int)) :: List.append [] z1))) false)] [(0, .cells [.view 1 n (intRow v), .int .i64 (MgS.a i')] 28), (1, .cells z0 52), (2, .row 56 15 (MgS.c i') (mgRow (MgS.g i')) false)]) ∧ P i') ((15 ≤ 16777216 ∧ 15 = 15 ∧ 1 ≤ 9223372036854775807) ∧ ((1 ≤ 1 ∧ 15 = 15) ∧ MgS.c i ≤ MgS.c i ∧ 15 = 15 ∧ 56 = 56 ∧ 15 = 15 ∧ MgS.c i + 1 ≤ 9223372036854775807 ∧ (MgS.c i + 1) * TI.bytes shrtX0 ≤ 140737488355328) ∧ inR .i64 (z6 + (1 : Int)) ∧ ∃ (i' : MgS), (TEq z2 [(3, .ptr 0 0), (4, .ptr 1 0), (5, .own 2 (MgS.c i')), (17, .int .i64 N), (18, .int .i64 (↑(MgS.c i') : Int))] ∧ RowsEq [(0, .cells [.view 1 n (intRow v), .int .i64 z5] 28), (1, .cells z0 52), (2, .row 56 15 (MgS.c i + 1) (apF (MgS.c i) (mgRow (MgS.g i)) (chunkA (TI.sz shrtX0) (.str z7 :: .int .i64 ((1 : Int) + nextV n (vInt (intRow v)) (MgS.a i + (1 : Int)) (5 : Int)) :: .int .i64 1 :: .str [(111 : UInt8), 49] :: .str p :: .int .i64 1440 :: .int .i64 43830 :: .int .i64 1 :: .int .i64 ((100 : Int) + nextV n (vInt (intRow v)) (MgS.a i + (1 : Int) + (1 : Int)) (2 : Int)) :: .str [] :: .str [] :: .str [] :: .int .i64 0 :: .str [] :: .int .i64 0 :: List.append [] z1))) false)] [(0, .cells [.view 1 n (intRow v), .int .i64 (MgS.a i')] 28), (1, .cells z0 52), (2, .row 56 15 (MgS.c i') (mgRow (MgS.g i')) false)]) ∧ P i')) ((∀ (i_1 : Nat), i_1 < MgS.c i → true = true) ∧ ∃ (O' : List (Nat × AObj)), RowsEq [(0, .cells z0 52), (1, .row 56 15 (MgS.c i) (mgRow (MgS.g i)) false)] O' ∧ R (.exit 0) (St.mk [(4, .ptr 0 0), (5, .own 1 (MgS.c i))] O' 2 []))) := by kernel_rfl
theorem ds_loop (hP : C.P = Tryz.prog) (p : List UInt8) (n : Nat) (v : Nat → Int) (a N : Int) : LoopOK C 0 90 (loopC Tryz.f11 5) (L_ds p n v a N) := by
  rintro st Q ⟨h0, hN, ha, hQ⟩
  refine AWP.ownNil 5 56 15 ?_
  refine AWP.frzQ 1 ?_
  refine LoopOK.mk (prg hP) [(27, .det S_next), (44, .det S_device)] 0 (.cons (next_ok hP) (.cons (device_ok hP) .nil)) [3, 4, 5, 17, 18] [4, 5] [] (S_ds p n v N) (fun i => (i.c : Int) ≤ N ∧ (a ≤ i.a ∧ i.a ≤ a + 10 * i.c) ∧ ∀ j, j < i.c → (i.g j).Sm) (fun i => N.toNat - i.c) ⟨0, fun _ => default, a⟩
    ⟨hN.1, by show a ≤ a ∧ a ≤ a + 10 * ((0 : Nat) : Int); omega, fun j hj => absurd hj (Nat.not_lt_zero j)⟩ h0 (fun i hi => ?_) (fun i => ⟨fun _ _ => rfl, trivial⟩)
  obtain ⟨h1, h2, h3⟩ := hi
  rw [nf_ds_round, show vInt (intRow v) = v from rfl]
  have r1 := nextV_range (show (1 : Int) ≤ 3 by omega) n v i.a
  have r2 := nextV_range (show (1 : Int) ≤ 5 by omega) n v (i.a + 1)
  have r3 := nextV_range (show (1 : Int) ≤ 2 by omega) n v (i.a + 1 + 1)
  have r4 := nextV_range (show (1 : Int) ≤ 3 by omega) n v (i.a + 1 + 1 + 1 + 1)
  have r5 := nextV_range (show (1 : Int) ≤ 5 by omega) n v (i.a + 1 + 1 + 1 + 1 + 1)
  have d1 : (devF (nextV n v i.a 3)).length ≤ 1 := (devF_ok (nextV n v i.a 3).toNat (by omega)).2
  have d2 : (devF (nextV n v (i.a + 1 + 1 + 1 + 1) 3)).length ≤ 1 := (devF_ok (nextV n v (i.a + 1 + 1 + 1 + 1) 3).toNat (by omega)).2
  have put : ∀ m : MG, m.Sm → ∀ j, j < i.c + 1 → (MG.put i.g i.c m j).Sm := fun m hm j hj => by
    unfold MG.put
    by_cases h : j < i.c
    · rw [if_pos h]; exact h3 j h
    · rw [if_neg h]; exact hm
  refine condP_dec (fun q => ?_) (fun q => ?_)
  · refine ⟨⟨rfl, rfl, rfl, by omega, by omega⟩, ⟨rfl, rfl, rfl, ⟨by omega, by omega⟩, by omega, by omega⟩, by simp only [inR]; omega, ⟨rfl, rfl, rfl, ⟨by omega, by omega⟩, by omega, by omega⟩, by simp only [inR]; omega, ⟨rfl, rfl, rfl, ⟨by omega, by omega⟩, by omega, by omega⟩,
      condP_dec (fun e => ⟨⟨rfl, rfl, rfl, by omega, by omega⟩, ⟨rfl, rfl, rfl, ⟨by omega, by omega⟩, by omega, by omega⟩, by simp only [inR]; omega, ⟨by omega, rfl, by omega⟩, ⟨⟨Nat.le_refl _, rfl⟩, Nat.le_refl _, rfl, rfl, rfl, by omega, ?_⟩, by simp only [inR]; omega, ⟨i.c + 1, MG.put i.g i.c ⟨devF (nextV n v i.a 3), 1 + nextV n v (i.a + 1) 5, 2, ⟨[], [], 0, 0, 0, 0, []⟩, ⟨[111, 49], p, 1440, devF (nextV n v (i.a + 1 + 1 + 1 + 1) 3), 1 + nextV n v (i.a + 1 + 1 + 1 + 1 + 1) 5⟩⟩, i.a + 1 + 1 + 1 + 1 + 1 + 1⟩, ⟨rfl, rfl, rfl, ⟨rfl, rfl, rfl, rfl, rfl, fun j hj => mput_ap i.g i.c _ _ rfl j hj⟩, trivial⟩, ⟨by show ((i.c + 1 : Nat) : Int) ≤ N; omega, by show a ≤ i.a + 1 + 1 + 1 + 1 + 1 + 1 ∧ i.a + 1 + 1 + 1 + 1 + 1 + 1 ≤ a + 10 * ((i.c + 1 : Nat) : Int); omega, put _ ?_⟩, by show N.toNat - (i.c + 1) < N.toNat - i.c; omega⟩)
      (fun e => ⟨⟨by omega, rfl, by omega⟩, ⟨⟨Nat.le_refl _, rfl⟩, Nat.le_refl _, rfl, rfl, rfl, by omega, ?_⟩, by simp only [inR]; omega, ⟨i.c + 1, MG.put i.g i.c ⟨devF (nextV n v i.a 3), 1 + nextV n v (i.a + 1) 5, 1, ⟨[111, 49], p, 1440, 43830, 1, 100 + nextV n v (i.a + 1 + 1) 2, []⟩, ⟨[], [], 0, [], 0⟩⟩, i.a + 1 + 1 + 1 + 1⟩, ⟨rfl, rfl, rfl, ⟨rfl, rfl, rfl, rfl, rfl, fun j hj => mput_ap i.g i.c _ _ rfl j hj⟩, trivial⟩, ⟨by show ((i.c + 1 : Nat) : Int) ≤ N; omega, by show a ≤ i.a + 1 + 1 + 1 + 1 ∧ i.a + 1 + 1 + 1 + 1 ≤ a + 10 * ((i.c + 1 : Nat) : Int); omega, put _ ?_⟩, by show N.toNat - (i.c + 1) < N.toNat - i.c; omega⟩)⟩
    · show (i.c + 1) * 176 ≤ _
      omega
    · exact ⟨Nat.lt_of_le_of_lt d1 (by decide), (show ([] : List UInt8).length < 4294967281 by decide), (show ([111, 49] : List UInt8).length < 4294967281 by decide), Nat.lt_of_le_of_lt d2 (by decide)⟩
    · show (i.c + 1) * 176 ≤ _
      omega
    · exact ⟨Nat.lt_of_le_of_lt d1 (by decide), (show ([111, 49] : List UInt8).length < 4294967281 by decide), (show ([] : List UInt8).length < 4294967281 by decide), (show ([] : List UInt8).length < 4294967281 by decide)⟩
  · refine ⟨fun _ _ => rfl, _, rowsEqR _, fun _ _ => rfl, ?_⟩
    have hb : Nat.ble i.c i.c = true := Nat.ble_eq_true_of_le (Nat.le_refl _)
    have e : frzSt 1 ⟨[(4, .ptr 0 0), (5, .own 1 i.c)], [(0, .cells [.str [111, 49], .str p, .int .i64 1440, .int .i64 43830, .int .i64 1, .int .i64 0, .str []] 52), (1, .row 56 15 i.c (mgRow i.g) false)], 2, []⟩
        = ⟨[(4, .ptr 0 0), (5, .view 15 i.c (mgRow i.g))], [(0, .cells [.str [111, 49], .str p, .int .i64 1440, .int .i64 43830, .int .i64 1, .int .i64 0, .str []] 52)], 2, []⟩ := by
      show (⟨[(4, frzC 1 15 i.c (mgRow i.g) (.ptr 0 0)), (5, frzC 1 15 i.c (mgRow i.g) (.own 1 i.c))], _, 2, []⟩ : St) = _
      simp [frzC, frzA, frz, hb]
      rfl
    rw [e]
    exact hQ i (by omega) h3
theorem lds_ok (hP : C.P = Tryz.prog) (hL : ∀ w, C.laid w → LaidW w) (n : Nat) (v : Nat → Int) : ADet C 11 [.view 1 n (intRow v)] [] (.bool true) [] := by
  refine SpecOK.wpL (prg hP) [(27, .det S_next), (43, .det S_id), (41, .det S_resolve), (42, .det S_resolve), (35, .det S_awake11)] [(5, L_ds (idF 0) n v 1 (nextV n v 0 9))] 0
    (.cons (next_ok hP) (.cons (id_ok hP) (.cons (resolve_ok hP hL) (.cons (resR_ok hP) (.cons (awake11_ok hP hL) .nil))))) (hP ▸ Tryz.func11) rfl rfl rfl [(loopC Tryz.f11 5, L_ds (idF 0) n v 1 (nextV n v 0 9))] (by kernel_rfl) ⟨ds_loop hP (idF 0) n v _ _, trivial⟩ ?_
  rw [nf_lds]
  have r := nextV_range (show (1 : Int) ≤ 9 by omega) n v 0
  exact ⟨trivial, ⟨rfl, rfl, rfl, ⟨by omega, by omega⟩, by omega, by omega⟩, ⟨rfl, rfl, rfl, ⟨rfl, rfl, rfl, rfl, rfl, fun i hi => absurd hi (Nat.not_lt_zero i)⟩, trivial⟩, by omega, by omega, fun i hc hs => ⟨⟨by omega, rfl, hs⟩, ⟨by omega, rfl, hs⟩, condP_intro (fun _ => condP_dec (fun _ => ⟨trivial, rfl, rfl⟩) (fun q => absurd rfl q)) (fun q => by simp at q)⟩⟩
end Go.Eng
namespace Go.Eng
open Go.Proofs Go.RowKit Go.ChangeShapes Go.WideShapes Go.ChangeAt
theorem params_Ds : Tryz.f11.params = #[23] := by kernel_rfl
set_option maxRecDepth 100000 in
theorem lifted_Ds (os : Os) (started : os.Started) (H : Type) (enc : TypeId × Value → H) :
    ReturnsInHanded {} Tryz.checked os 11 .any (fun w args => (Go.Proofs.YtokpcnppihgdlaaGreatDoor.Rows.collectionDisputesSpec.pre enc Tryz.prog Tryz.f11 [] false w args ∧ laidMetH Tryz.prog Go.Proofs.YtokpcnppihgdlaaGreatDoor.Rows.collectionDisputesRow.laid w) ∧ sizedMet enc Tryz.prog Tryz.f11 (OpenSpec.ofChange Go.Proofs.YtokpcnppihgdlaaGreatDoor.Rows.collectionDisputesSpec) false w args)
      (Go.Proofs.YtokpcnppihgdlaaGreatDoor.Rows.collectionDisputesSpec.post enc Tryz.prog Tryz.f11 false true false false) := by
  refine handed_and_shaped (C := Tryz.checked) (X := fun w _ => laidMetH Tryz.prog Go.Proofs.YtokpcnppihgdlaaGreatDoor.Rows.collectionDisputesRow.laid w) (fun _ _ _ hh h => h.of_heap hh) ownK started (by kernel_rfl) Tryz.func11
    (ChangeSpec.witness_at (enc := enc) (C := Tryz.checked) (os := os) (X := fun w _ => laidMetH Tryz.prog Go.Proofs.YtokpcnppihgdlaaGreatDoor.Rows.collectionDisputesRow.laid w) false (laidWorld os) #[.slice none 0 0] 8 rfl (by kernel_rfl) (by kernel_rfl) (by kernel_rfl) (by kernel_rfl) (by kernel_rfl) (laid_met os _)) ?_
  intro W base args ds gs before hval0 hW hL hsh
  have hval : ∀ (j : Nat) t v, Tryz.f11.params[j]? = some t → args[j]? = some v → Value.okWide Tryz.prog W .any base t v := hval0
  have hW' := hW
  obtain ⟨p, q, hA0, hV, rfl, hfz, hnd⟩ := hW
  have hA : DataW.TrodAll enc Tryz.prog W 0 (fun _ => true) true Tryz.f11.params.toList args.toList ds p := hA0
  rw [params_Ds] at hA hval
  obtain ⟨v0, vs0, d0, ds0, p0, q0, hargs, rfl, rfl, h0, r0⟩ := trodAll_cons hA
  obtain ⟨rfl, rfl, rfl⟩ := trodAll_nil r0
  obtain rfl : args = #[v0] := by cases args; simp_all
  obtain ⟨rfl, rfl⟩ := trodVars_none hV
  obtain ⟨a0, len0, cap0, rfl⟩ := okWide_slice undIs (hval 0 23 v0 rfl rfl)
  have k0 := h0
  have lt0 : ∀ x ∈ p0, x.block < W.heap.size := by obtain ⟨m, hm⟩ := k0; exact DataW.trod_lt m _ _ _ hm
  obtain ⟨m0, hm0⟩ := h0
  obtain ⟨A0, n0, c0, w0, e0, V0⟩ := read_ints hm0
  have e0 : [Value.slice a0 len0 cap0] = [Value.slice A0 n0 c0] := e0
  simp only [List.cons.injEq, and_true] at e0
  rw [← e0] at V0
  have lw := laidW_of hL hsh
  refine (ADet.top (C := cx) (lds_ok rfl (fun _ h => h) n0 w0) lw (gsz_le lw) (cargs := [.slice a0 len0 cap0]) rfl (fun j x u hx hu => ?_)).mono fun e W' ⟨he, bel⟩ => ?_
  · match j with
    | 0 => obtain rfl := Option.some.inj hx; obtain rfl := Option.some.inj hu; exact V0
    | j + 1 => simp at hx
  · subst he
    exact ⟨_, rfl, _, _, _, [], _, [], hW', trodAll_mk1 (shut_bool (show Tryz.prog.underlying 4 = some .bool by kernel_rfl) _), (trodAll_cons_mk (Below.trod laidOut (by kernel_rfl) (of_decide_eq_true (by kernel_rfl)) k0 bel lt0) trodAll_mk0), rfl, bel.frame _, fun h => by cases h⟩
set_option maxRecDepth 100000 in
theorem over_Ds : Go.Proofs.YtokpcnppihgdlaaGreatDoor.Rows.collectionDisputesRow.holds Go.Proofs.YtokpcnppihgdlaaGreatDoor.Tryz.pinned (OpenSpec.ofChange Go.Proofs.YtokpcnppihgdlaaGreatDoor.Rows.collectionDisputesSpec) :=
  OpenClaim.holds_of_wide 11 Tryz.f11 rfl rfl rfl rfl rfl rfl rfl ⟨rfl, rfl, rfl, rfl, rfl⟩ rfl rfl rfl rfl rfl (by kernel_rfl) Tryz.func11 closed_Ds
    inst_Ds (by unfold Func.isWrapper; rw [if_neg (of_decide_eq_false (by kernel_rfl))]; exact ⟨rfl, rfl⟩)
    (fun os started H enc _ => lifted_Ds os started H enc)
end Go.Eng
namespace Go.Proofs.YtokpcnppihgdlaaGreatDoor
open Go
set_option maxRecDepth 100000 in
theorem wf_Ds : Rows.collectionDisputesRow.wfByText (OpenSpec.ofChange Rows.collectionDisputesSpec) = true := by kernel_rfl
set_option maxRecDepth 100000 in
theorem goes_Ds : false = Rows.collectionDisputesRow.goesBy Tryz.prog := by kernel_rfl
theorem named_Ds : Tryz.prog.funcNamed "priceoffice/priceofficelaw11.CollectionDisputes" = some 11 := by kernel_rfl
theorem stand_Ds0 : Tryz.prog.wantsStandIn 23 = false := by kernel_rfl
theorem card_Ds : Rows.CollectionDisputesCardSaid :=
  Claim7.holds_tied_plain_at .later [] [.data, .data, .data, .data, .sentinel, .sentinel, .pinned] true harB true
    Go.Eng.over_Ds (fun _ h => by cases h) wf_Ds (fun _ h => by cases h) collectionDisputes_row_tie rfl ⟨rfl, rfl⟩ mainB rfl
    (fun f fn hf hfn => by
      obtain rfl : f = 11 := Option.some.inj (named_Ds.symm.trans hf) |>.symm
      obtain rfl : fn = Tryz.f11 := (Option.some.inj (Tryz.func11.symm.trans hfn)).symm
      exact ⟨looksB, fun j t ht => by
        rw [Go.Eng.params_Ds] at ht
        have h3 : t = 23 := by
          rcases j with _ | j
          · exact by simpa using ht.symm
          · simp at ht
        rcases h3 with rfl
        · exact stand_Ds0⟩)
    goes_Ds
end Go.Proofs.YtokpcnppihgdlaaGreatDoor
