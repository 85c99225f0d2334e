/- Lemmas that the tied card of CollectionUnion is proved by. -/
import Derived.Test.YtokpcnppihgdlaaGreatDoorNt
import Derived.Test.YtokpcnppihgdlaaGreatDoorNv
import Derived.Test.YtokpcnppihgdlaaGreatDoorNy
import Derived.Test.YtokpcnppihgdlaaGreatDoorNu
/- The laws of messages: their helpers. -/
namespace Go.Eng
open Go.Proofs Go.RowKit
variable {C : Ctx} [C.Loose]
set_option maxRecDepth 20000
theorem nf_msgs (n : Nat) (v : Nat → Int) (a most : Int) (R : AV → List (Nat × AObj) → Prop) : wpFn te [(46, .rel R_mmsg), (27, .det S_next)] [(3, L_msgs n v (a + 1) (nextV n v a (most + 1)))] 0 Tryz.f71 [.ptr 0 0, .int .i64 most] [.cells [.view 1 n (intRow v), .int .i64 a] 28] R = (inR .i64 (most + (1 : Int)) ∧ (28 = 28 ∧ 1 = 1 ∧ intRow v = intRow (vInt (intRow v)) ∧ ((1 : Int) ≤ most + (1 : Int) ∧ most + (1 : Int) ≤ (1000000 : Int)) ∧ (0 : Int) ≤ a ∧ a ≤ (4611686018427387904 : Int)) ∧ (TEq [(0, .ptr 0 0), (5, .own 1 0), (9, .int .i64 (nextV n (vInt (intRow v)) a (most + (1 : Int)))), (10, .int .i64 0)] [(0, .ptr 0 0), (5, .own 1 0), (9, .int .i64 (nextV n v a (most + (1 : Int)))), (10, .int .i64 (↑(MgS.c (MgS.mk 0 (fun (x : Nat) => default) (a + (1 : Int)))) : Int))] ∧ RowsEq [(0, .cells [.view 1 n (intRow v), .int .i64 (a + (1 : Int))] 28), (1, .row 56 15 0 (fun (x : Nat) => []) false)] [(0, .cells [.view 1 n (intRow v), .int .i64 (MgS.a (MgS.mk 0 (fun (x : Nat) => default) (a + (1 : Int))))] 28), (1, .row 56 15 0 (mgRow (MgS.g (MgS.mk 0 (fun (x : Nat) => default) (a + (1 : Int))))) false)]) ∧ ((0 : Int) ≤ nextV n v a (most + (1 : Int)) ∧ nextV n v a (most + (1 : Int)) ≤ (100 : Int)) ∧ ((0 : Int) ≤ a + (1 : Int) ∧ a + (1 : Int) ≤ (4611686018427375000 : Int)) ∧ ∀ (i : MgS), MgS.c i = Int.toNat (nextV n v a (most + (1 : Int))) → a + (1 : Int) ≤ MgS.a i ∧ MgS.a i ≤ a + (1 : Int) + (10 : Int) * (↑(MgS.c i) : Int) → (∀ (j : Nat), j < MgS.c i → MG.Made (MgS.g i j)) → (∀ (i_1 : Nat), i_1 < MgS.c i → true = true) ∧ ∃ (O' : List (Nat × AObj)), RowsEq [(0, .cells [.view 1 n (intRow v), .int .i64 (MgS.a i)] 28), (1, .row 56 15 (MgS.c i) (mgRow (MgS.g i)) false)] O' ∧ R (.own 1 (MgS.c i)) O') := by kernel_rfl
theorem nf_msgs_round (n : Nat) (v : Nat → Int) (N : Int) (i : MgS) (P : MgS → Prop) (R : Exit → St → Prop) : roundP ⟨te, [(46, .rel R_mmsg)], [], 1, 19, 0⟩ (loopB Tryz.f71 3) [0, 5, 9, 10] [5] [] (S_msgs n v N) P R (S_msgs n v N i) = (condP (decide ((↑(MgS.c i) : Int) < N)) (28 = 28 ∧ 1 = 1 ∧ intRow v = intRow (vInt (intRow v)) ∧ ((0 : Int) ≤ MgS.a i ∧ MgS.a i ≤ (4611686018427385000 : Int)) ∧ ∀ (m : MG) (a' : Int), MG.Made m → MgS.a i ≤ a' ∧ a' ≤ MgS.a i + (10 : Int) → (15 ≤ 16777216 ∧ 15 = 15 ∧ 1 ≤ 9223372036854775807) ∧ ((1 ≤ 1 ∧ 15 = 15) ∧ MgS.c i ≤ MgS.c i ∧ 15 = 15 ∧ 56 = 56 ∧ 15 = 15 ∧ MgS.c i + 1 ≤ 9223372036854775807 ∧ (MgS.c i + 1) * TI.bytes (TI.mk (TypeDesc.struct #[Field.mk "Device" (9 : TypeId) 0 false "" "" 0, Field.mk "Sequence" (3 : TypeId) 1 false "" "" 16, Field.mk "Kind" (3 : TypeId) 2 false "" "" 24, Field.mk "Visit" (52 : TypeId) 3 false "" "" 32, Field.mk "Decision" (54 : TypeId) 10 false "" "" 112]) 15 176 (Value.agg #[Value.string (ByteArray.mk #[]), Value.int IntKind.i64 0, Value.int IntKind.i64 0, Value.string (ByteArray.mk #[]), Value.string (ByteArray.mk #[]), Value.int IntKind.i64 0, Value.int IntKind.i64 0, Value.int IntKind.i64 0, Value.int IntKind.i64 0, Value.string (ByteArray.mk #[]), Value.string (ByteArray.mk #[]), Value.string (ByteArray.mk #[]), Value.int IntKind.i64 0, Value.string (ByteArray.mk #[]), Value.int IntKind.i64 0]) true) ≤ 140737488355328) ∧ inR .i64 ((↑(MgS.c i) : Int) + (1 : Int)) ∧ ∃ (i' : MgS), (TEq [(0, .ptr 0 0), (5, .own 1 (MgS.c i + 1)), (9, .int .i64 N), (10, .int .i64 ((↑(MgS.c i) : Int) + (1 : Int)))] [(0, .ptr 0 0), (5, .own 1 (MgS.c i')), (9, .int .i64 N), (10, .int .i64 (↑(MgS.c i') : Int))] ∧ RowsEq [(0, .cells [.view 1 n (intRow v), .int .i64 a'] 28), (1, .row 56 15 (MgS.c i + 1) (apF (MgS.c i) (mgRow (MgS.g i)) (chunkA (TI.sz (TI.mk (TypeDesc.struct #[Field.mk "Device" (9 : TypeId) 0 false "" "" 0, Field.mk "Sequence" (3 : TypeId) 1 false "" "" 16, Field.mk "Kind" (3 : TypeId) 2 false "" "" 24, Field.mk "Visit" (52 : TypeId) 3 false "" "" 32, Field.mk "Decision" (54 : TypeId) 10 false "" "" 112]) 15 176 (Value.agg #[Value.string (ByteArray.mk #[]), Value.int IntKind.i64 0, Value.int IntKind.i64 0, Value.string (ByteArray.mk #[]), Value.string (ByteArray.mk #[]), Value.int IntKind.i64 0, Value.int IntKind.i64 0, Value.int IntKind.i64 0, Value.int IntKind.i64 0, Value.string (ByteArray.mk #[]), Value.string (ByteArray.mk #[]), Value.string (ByteArray.mk #[]), Value.int IntKind.i64 0, Value.string (ByteArray.mk #[]), Value.int IntKind.i64 0]) true)) (.str (MG.dev m) :: .int .i64 (MG.seq m) :: .int .i64 (MG.kind m) :: .str (VT.o (MG.v m)) :: .str (VT.p (MG.v m)) :: .int .i64 (VT.per (MG.v m)) :: .int .i64 (VT.day (MG.v m)) :: .int .i64 (VT.st (MG.v m)) :: .int .i64 (VT.pr (MG.v m)) :: .str (VT.rep (MG.v m)) :: .str (DT.o (MG.d m)) :: .str (DT.p (MG.d m)) :: .int .i64 (DT.per (MG.d m)) :: .str (DT.dev (MG.d m)) :: .int .i64 (DT.num (MG.d m)) :: List.append [] (List.flatten (List.replicate (nat_lit 0) [.str ([]), .int .i64 0, .int .i64 0, .str ([]), .str ([]), .int .i64 0, .int .i64 0, .int .i64 0, .int .i64 0, .str ([]), .str ([]), .str ([]), .int .i64 0, .str ([]), .int .i64 0]))))) false)] [(0, .cells [.view 1 n (intRow v), .int .i64 (MgS.a i')] 28), (1, .row 56 15 (MgS.c i') (mgRow (MgS.g i')) false)]) ∧ P i') ((∀ (i_1 : Nat), i_1 < MgS.c i → true = true) ∧ ∃ (O' : List (Nat × AObj)), RowsEq [(0, .cells [.view 1 n (intRow v), .int .i64 (MgS.a i)] 28), (1, .row 56 15 (MgS.c i) (mgRow (MgS.g i)) false)] O' ∧ R (.exit 0) (St.mk [(5, .own 1 (MgS.c i))] O' 2 []))) := by kernel_rfl
theorem nf_aw11 (R : AV → List (Nat × AObj) → Prop) : wpFn te [(41, .det S_resolveO)] [] 0 Tryz.f35 [] [] R = ((15 ≤ 16777216 ∧ 15 = 15 ∧ 1 ≤ 9223372036854775807) ∧ (∀ (i : Nat), i < 1 → nrefL (chunkA (TI.sz (TI.mk (TypeDesc.struct #[Field.mk "Device" (9 : TypeId) 0 false "" "" 0, Field.mk "Sequence" (3 : TypeId) 1 false "" "" 16, Field.mk "Kind" (3 : TypeId) 2 false "" "" 24, Field.mk "Visit" (52 : TypeId) 3 false "" "" 32, Field.mk "Decision" (54 : TypeId) 10 false "" "" 112]) 15 176 (Value.agg #[Value.string (ByteArray.mk #[]), Value.int IntKind.i64 0, Value.int IntKind.i64 0, Value.string (ByteArray.mk #[]), Value.string (ByteArray.mk #[]), Value.int IntKind.i64 0, Value.int IntKind.i64 0, Value.int IntKind.i64 0, Value.int IntKind.i64 0, Value.string (ByteArray.mk #[]), Value.string (ByteArray.mk #[]), Value.string (ByteArray.mk #[]), Value.int IntKind.i64 0, Value.string (ByteArray.mk #[]), Value.int IntKind.i64 0]) true)) (.str [(97 : UInt8)] :: .int .i64 1 :: .int .i64 1 :: .str [(111 : UInt8), 49] :: .str [(57 : UInt8), 54, 51, 56, 53, 48, 55, 52] :: .int .i64 5 :: .int .i64 160 :: .int .i64 1 :: .int .i64 100 :: .str [] :: .str [] :: .str [] :: .int .i64 0 :: .str [] :: .int .i64 0 :: List.append [] (List.flatten (List.replicate (nat_lit 0) [.str ([]), .int .i64 0, .int .i64 0, .str ([]), .str ([]), .int .i64 0, .int .i64 0, .int .i64 0, .int .i64 0, .str ([]), .str ([]), .str ([]), .int .i64 0, .str ([]), .int .i64 0]))) i) = true) ∧ (1 = 1 ∧ 1 ≤ 100000 ∧ RM (chunkA (TI.sz (TI.mk (TypeDesc.struct #[Field.mk "Device" (9 : TypeId) 0 false "" "" 0, Field.mk "Sequence" (3 : TypeId) 1 false "" "" 16, Field.mk "Kind" (3 : TypeId) 2 false "" "" 24, Field.mk "Visit" (52 : TypeId) 3 false "" "" 32, Field.mk "Decision" (54 : TypeId) 10 false "" "" 112]) 15 176 (Value.agg #[Value.string (ByteArray.mk #[]), Value.int IntKind.i64 0, Value.int IntKind.i64 0, Value.string (ByteArray.mk #[]), Value.string (ByteArray.mk #[]), Value.int IntKind.i64 0, Value.int IntKind.i64 0, Value.int IntKind.i64 0, Value.int IntKind.i64 0, Value.string (ByteArray.mk #[]), Value.string (ByteArray.mk #[]), Value.string (ByteArray.mk #[]), Value.int IntKind.i64 0, Value.string (ByteArray.mk #[]), Value.int IntKind.i64 0]) true)) (.str [(97 : UInt8)] :: .int .i64 1 :: .int .i64 1 :: .str [(111 : UInt8), 49] :: .str [(57 : UInt8), 54, 51, 56, 53, 48, 55, 52] :: .int .i64 5 :: .int .i64 160 :: .int .i64 1 :: .int .i64 100 :: .str [] :: .str [] :: .str [] :: .int .i64 0 :: .str [] :: .int .i64 0 :: List.append [] (List.flatten (List.replicate (nat_lit 0) [.str ([]), .int .i64 0, .int .i64 0, .str ([]), .str ([]), .int .i64 0, .int .i64 0, .int .i64 0, .int .i64 0, .str ([]), .str ([]), .str ([]), .int .i64 0, .str ([]), .int .i64 0])))) 1) ∧ R (.bool true) []) := by kernel_rfl

theorem mput_ap (g : Nat → MG) (k : Nat) (r : MG) (ch : Nat → List AV) (hch : ch 0 = mgC r) (j : Nat) (_hj : j < k + 1) : apF k (mgRow g) ch j = mgRow (MG.put g k r) j := by
  unfold apF mgRow MG.put
  by_cases h : j < k
  · rw [if_pos h, if_pos h]
  · have : j = k := by omega
    rw [if_neg h, if_neg h, this, Nat.sub_self, hch]; rfl
theorem msgs_loop (hP : C.P = Tryz.prog) (n : Nat) (v : Nat → Int) (a N : Int) : LoopOK C 1 19 (loopC Tryz.f71 3) (L_msgs n v a N) := by
  rintro st Q ⟨h0, hN, ha, hQ⟩
  refine AWP.ownNil 5 56 15 ?_
  refine LoopOK.mk (prg hP) [(46, .rel R_mmsg)] 0 (.cons (mmsg_ok hP) .nil) [0, 5, 9, 10] [5] [] (S_msgs n v N) (fun i => (i.c : Int) ≤ N ∧ (a ≤ i.a ∧ i.a ≤ a + 10 * i.c) ∧ ∀ j, j < i.c → (i.g j).Made) (fun i => N.toNat - i.c) ⟨0, fun _ => default, a⟩
    ⟨hN.1, by show a ≤ a ∧ a ≤ a + 10 * ((0 : Nat) : Int); omega, fun j hj => absurd hj (Nat.not_lt_zero j)⟩ h0 (fun i hi => ?_) (fun i => ⟨fun _ _ => rfl, trivial⟩)
  obtain ⟨h1, h2, h3⟩ := hi
  rw [nf_msgs_round]
  refine condP_dec (fun q => ?_) (fun q => ⟨fun _ _ => rfl, _, rowsEqR _, hQ i (by omega) h2 h3⟩)
  refine ⟨rfl, rfl, rfl, by omega, fun m a' hm ha' => ⟨⟨by omega, rfl, by omega⟩, ⟨⟨Nat.le_refl _, rfl⟩, Nat.le_refl _, rfl, rfl, rfl, by omega, ?_⟩, by simp only [inR]; omega, ⟨i.c + 1, MG.put i.g i.c m, a'⟩, ⟨rfl, rfl, ⟨rfl, rfl, rfl, rfl, rfl, fun j hj => ?_⟩, trivial⟩, ⟨?_, ?_, fun j hj => ?_⟩, ?_⟩⟩
  · show (i.c + 1) * 176 ≤ _
    omega
  · exact mput_ap i.g i.c m _ rfl j hj
  · show ((i.c + 1 : Nat) : Int) ≤ N
    omega
  · show a ≤ a' ∧ a' ≤ a + 10 * ((i.c + 1 : Nat) : Int)
    omega
  · show (MG.put i.g i.c m j).Made
    unfold MG.put
    by_cases h : j < i.c
    · rw [if_pos h]; exact h3 j h
    · rw [if_neg h]; exact hm
  · show N.toNat - (i.c + 1) < N.toNat - i.c
    omega
theorem msgs_ok (hP : C.P = Tryz.prog) : RSpecOK C 71 R_msgs := by
  rintro args objs R h
  unfold R_msgs at h
  split at h
  · rename_i most sz n f a t
    obtain ⟨rfl, rfl, hf, ha, hm, hR⟩ := h
    rw [hf] at hR ⊢
    generalize vInt f = v at *
    have hw : vInt (intRow v) = v := rfl
    refine RSpecOK.wpL (prg hP) [(46, .rel R_mmsg), (27, .det S_next)] [(3, L_msgs n v (a + 1) (nextV n v a (most + 1)))] 0 (.cons (mmsg_ok hP) (.cons (next_ok hP) .nil)) (hP ▸ Tryz.func71) rfl rfl rfl [(loopC Tryz.f71 3, L_msgs n v (a + 1) (nextV n v a (most + 1)))] (by kernel_rfl) ⟨msgs_loop hP _ _ _ _, trivial⟩ ?_
    rw [nf_msgs, hw]
    have r := nextV_range (show (1 : Int) ≤ most + 1 by omega) n v a
    exact ⟨by simp only [inR]; omega, ⟨rfl, rfl, rfl, ⟨by omega, by omega⟩, by omega, by omega⟩, ⟨rfl, rfl, ⟨rfl, rfl, rfl, rfl, rfl, fun i hi => absurd hi (Nat.not_lt_zero i)⟩, trivial⟩, ⟨by omega, by omega⟩, ⟨by omega, by omega⟩, fun i h1 h2 h3 => ⟨fun _ _ => rfl, _, rowsEqR _, hR i.c i.g i.a (by omega) ⟨by omega, by omega⟩ h3⟩⟩
  · exact h.elim

theorem resolveO_ok (hP : C.P = Tryz.prog) (hL : ∀ w, C.laid w → LaidW w) : SpecOK C 41 S_resolveO := by
  rintro args objs U Os vc h hvc
  unfold S_resolveO at h
  split at h <;> simp only [Option.some.injEq, Prod.mk.injEq, reduceCtorEq] at h
  rename_i n o p per t m f fr
  obtain ⟨rfl, rfl, rfl⟩ := h
  obtain ⟨rfl, hn, ⟨hf, hs⟩⟩ := hvc
  refine ACalls.rowEq 0 (f' := mgRow (mgOf f)) rfl (fun i hi => (hf i hi).symm) ?_
  have hb : Nat.ble n n = true := Nat.ble_eq_true_of_le (Nat.le_refl _)
  exact ADet.give (resolve_ok hP hL [.view 15 n (mgRow (mgOf f)), .str o, .str p, .int .i64 per] [] _ _ _ rfl ⟨hn, rfl, hs⟩) (by simp [frzC, frzA, frz, hb]) rfl rfl (fun _ _ => rfl)
theorem mrgV_ok (hP : C.P = Tryz.prog) (hL : ∀ w, C.laid w → LaidW w) : SpecOK C 38 S_mrgV := by
  rintro args objs U Os vc hh hvc
  unfold S_mrgV at hh
  split at hh <;> simp only [Option.some.injEq, Prod.mk.injEq, reduceCtorEq] at hh
  rename_i n f m h
  obtain ⟨rfl, rfl, rfl⟩ := hh
  refine ACalls.frzO 0 (ACalls.mono (mrg_ok hP hL [.view 15 n f, .view 15 m h] [] _ _ _ rfl hvc) ?_)
  rintro u O ⟨rfl, rfl⟩
  have hb : Nat.ble (mrgL (mgOf f) n (mgOf h) m).length (mrgL (mgOf f) n (mgOf h) m).length = true := Nat.ble_eq_true_of_le (Nat.le_refl _)
  refine ⟨fun _ _ => rfl, ?_⟩
  constructor
  · simp [frzC, frzA, frz, hb]
  · rfl
/-- The one message of awake. -/
def awM : MG := ⟨[97], 1, 1, ⟨[111, 49], [57, 54, 51, 56, 53, 48, 55, 52], 5, 160, 1, 100, []⟩, ⟨[], [], 0, [], 0⟩⟩
theorem awake11_ok (hP : C.P = Tryz.prog) (hL : ∀ w, C.laid w → LaidW w) : SpecOK C 35 S_awake11 := by
  rintro args objs U Os vc h hvc
  unfold S_awake11 at h
  split at h <;> simp only [Option.some.injEq, Prod.mk.injEq, reduceCtorEq] at h
  obtain ⟨rfl, rfl, rfl⟩ := h
  refine SpecOK.wp0 (prg hP) [(41, .det S_resolveO)] 0 (.cons (resolveO_ok hP hL) .nil) (hP ▸ Tryz.func35) rfl rfl rfl ?_
  rw [nf_aw11]
  generalize hf : chunkA _ _ = f
  have f0 : f 0 = mgRow (atM [awM]) 0 := by rw [← hf]; rfl
  have one : ∀ {p : Nat → Prop}, p 0 → ∀ i, i < 1 → p i := fun h0 i hi => by
    match i, hi with
    | 0, _ => exact h0
  have r0 : mgOf f 0 = atM [awM] 0 := by unfold mgOf; rw [f0]; rfl
  exact ⟨⟨by omega, rfl, by omega⟩, one (by rw [f0]; rfl), ⟨rfl, by omega, ⟨one (by show f 0 = mgC (mgOf f 0); rw [r0, f0]; rfl), one (by rw [r0]; exact ⟨by decide, by decide, by decide, by decide⟩)⟩⟩, rfl, rfl⟩
end Go.Eng
