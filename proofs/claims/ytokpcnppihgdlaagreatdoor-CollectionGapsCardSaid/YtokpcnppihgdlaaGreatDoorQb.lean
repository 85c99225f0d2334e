/- The tied card of CollectionGaps: its statement is 'CollectionGapsCardSaid' of the given cards. -/
import Derived.Test.YtokpcnppihgdlaaGreatDoorEt
import Derived.Test.YtokpcnppihgdlaaGreatDoorEy
import Derived.Test.YtokpcnppihgdlaaGreatDoorEw
import Derived.Test.YtokpcnppihgdlaaGreatDoorEp
import Derived.Test.YtokpcnppihgdlaaGreatDoorEza
import Derived.Test.YtokpcnppihgdlaaGreatDoorQa
import Derived.Test.YtokpcnppihgdlaaGreatDoorEz
import Derived.Test.YtokpcnppihgdlaaGreatDoorEzb
namespace Go.Eng
def mkRow (g : Nat → List UInt8 × Int) (i : Nat) : List AV := [.str (g i).1, .int .i64 (g i).2]
def atK (L : List (List UInt8 × Int)) (i : Nat) : List UInt8 × Int := L.getD i ([], 0)
structure GS where
  out : List (List UInt8 × Int)
  dev : List UInt8
  next : Int
  miss : Int
def gp0 : GS := ⟨[], [], 1, 0⟩
def gpDev (s : GS) (m : MG) : GS := bif decide (m.dev = s.dev) then s else ⟨s.out, m.dev, 1, 0⟩
def gpFill (s : GS) (c : Nat) : GS := ⟨s.out ++ (List.range c).map (fun i : Nat => (s.dev, s.next + (i : Int))), s.dev, s.next + c, s.miss + c⟩
def gpCnt (s : GS) (seq : Int) : Nat := min (seq - s.next).toNat (400 - s.miss).toNat
def gpF (M : List MG) : Nat → GS
  | 0 => gp0
  | k + 1 => ⟨(gpFill (gpDev (gpF M k) (atM M k)) (gpCnt (gpDev (gpF M k) (atM M k)) (atM M k).seq)).out, (atM M k).dev, (atM M k).seq + 1, (gpFill (gpDev (gpF M k) (atM M k)) (gpCnt (gpDev (gpF M k) (atM M k)) (atM M k).seq)).miss⟩
def gapL (g : Nat → MG) (n : Nat) : List (List UInt8 × Int) := (gpF (mrgL g n noM 0) (mrgL g n noM 0).length).out
def S_gp (M : List MG) (k : Nat) : St := ⟨[(3, .own 0 (gpF M k).out.length), (4, .str (gpF M k).dev), (5, .int .i64 (gpF M k).next), (6, .int .i64 (gpF M k).miss), (10, .view 15 M.length (mgRow (atM M))), (11, .int .i64 M.length), (12, .int .i64 k)],
  [(0, .row 79 2 (gpF M k).out.length (mkRow (atK (gpF M k).out)) false)], 1, []⟩
def L_gp (M : List MG) : LSpec := fun st Q => canonIs te 0 [3, 4, 5, 6, 10, 11, 12] (ownNil 3 79 2 st) (S_gp M 0) ∧ M.length ≤ 100000 ∧ (∀ m ∈ M, msgF m = 0) ∧
  Q (.exit 0) ⟨[(3, .own 0 (gpF M M.length).out.length)], [(0, .row 79 2 (gpF M M.length).out.length (mkRow (atK (gpF M M.length).out)) false)], 1, []⟩
def S_gi (M : List MG) (k : Nat) (s : GS) (m : MG) (c : Nat) : St := ⟨[(3, .own 0 (gpFill s c).out.length), (4, .str (gpFill s c).dev), (5, .int .i64 (gpFill s c).next), (6, .int .i64 (gpFill s c).miss), (8, .ptr 1 0), (10, .view 15 M.length (mgRow (atM M))), (11, .int .i64 M.length), (12, .int .i64 k)],
  [(0, .row 79 2 (gpFill s c).out.length (mkRow (atK (gpFill s c).out)) false), (1, .cells [.str m.dev, .int .i64 m.seq, .int .i64 m.kind, .str m.v.o, .str m.v.p, .int .i64 m.v.per, .int .i64 m.v.day, .int .i64 m.v.st, .int .i64 m.v.pr, .str m.v.rep, .str m.d.o, .str m.d.p, .int .i64 m.d.per, .str m.d.dev, .int .i64 m.d.num] 56)], 2, []⟩
def L_gi (M : List MG) (k : Nat) (s : GS) (m : MG) : LSpec := fun st Q => canonIs te 0 [3, 4, 5, 6, 8, 10, 11, 12] st (S_gi M k s m 0) ∧ s.out.length ≤ 100000000 ∧ (-1 ≤ s.next ∧ s.next ≤ 1048577) ∧ (0 ≤ s.miss ∧ s.miss ≤ 400) ∧ (1 ≤ m.seq ∧ m.seq ≤ 1048576) ∧
  Q (.exit 2) (S_gi M k s m (gpCnt s m.seq))
def S_gaps : Spec
  | [.view 15 n f], [] => some (.view 2 (gapL (mgOf f) n).length (mkRow (atK (gapL (mgOf f) n))), [], n ≤ 100000 ∧ f = mgRow (mgOf f) ∧ ∀ i, i < n → (mgOf f i).Sm)
  | _, _ => none
def S_gapsO : Spec
  | [.own 0 n], [.row _ 15 m f _] => some (.view 2 (gapL (mgOf f) n).length (mkRow (atK (gapL (mgOf f) n))), [], n = m ∧ n ≤ 100000 ∧ RM f n)
  | _, _ => none
end Go.Eng
namespace Go.Eng
open Go.Proofs Go.RowKit
variable {C : Ctx} [C.Loose]
set_option maxRecDepth 20000
theorem nf_gaps (g : Nat → MG) (n : Nat) (R : AV → List (Nat × AObj) → Prop) : wpFn te [(38, .det S_mrgVN)] [(4, L_gp (mrgL g n noM 0))] 0 Tryz.f51 [.view 15 n (mgRow g)] [] R = (letI z3 := List.length (mrgL g n noM 0); letI z2 := mrgL (mgOf (mgRow g)) n noM 0; letI z1 := gpF (mrgL g n noM 0) 0; letI z0 := GS.out (gpF (mrgL g n noM 0) z3); (n ≤ 100000 ∧ mgRow g = mgRow (mgOf (mgRow g)) ∧ ∀ (i : Nat), i < n → MG.Sm (mgOf (mgRow g) i)) ∧ (TEq [(3, .own 0 0), (4, .str []), (5, .int .i64 1), (6, .int .i64 0), (10, .view 15 (List.length z2) (mgRow (atM z2))), (11, .int .i64 (↑(List.length z2) : Int)), (12, .int .i64 0)] [(3, .own 0 0), (4, .str (GS.dev z1)), (5, .int .i64 (GS.next z1)), (6, .int .i64 (GS.miss z1)), (10, .view 15 z3 (mgRow (atM (mrgL g n noM 0)))), (11, .int .i64 (↑z3 : Int)), (12, .int .i64 (↑0 : Int))] ∧ RowsEq [(0, .row 79 2 0 (fun (_x : Nat) => []) false)] [(0, .row 79 2 0 (mkRow (atK (GS.out z1))) false)]) ∧ List.length (mrgL g n noM 0) ≤ 100000 ∧ (∀ (m : MG), m ∈ mrgL g n noM 0 → msgF m = (0 : Int)) ∧ (∀ (i : Nat), i < List.length z0 → true = true) ∧ ∃ (O' : List (Nat × AObj)), RowsEq [(0, .row 79 2 (List.length z0) (mkRow (atK z0)) false)] O' ∧ R (.own 0 (List.length z0)) O') := by kernel_rfl
theorem nf_gi_round (M : List MG) (k : Nat) (s : GS) (m : MG) (c : Nat) (P : Nat → Prop) (R : Exit → St → Prop) : roundP ⟨te, [], [], 0, 45, 0⟩ (loopB Tryz.f51 8) [3, 4, 5, 6, 8, 10, 11, 12] [3, 4, 5, 6, 8, 10, 11, 12] [] (S_gi M k s m) P R (S_gi M k s m c) = (letI z5 := (↑(List.length M) : Int); letI z3 := (TI.mk (TypeDesc.struct #[Field.mk "Device" (9 : TypeId) 0 false "" "" 0, Field.mk "Sequence" (3 : TypeId) 1 false "" "" 16]) 2 24 (Value.agg #[Value.string (ByteArray.mk #[]), Value.int IntKind.i64 0]) true); letI z2 := GS.out (gpFill s c); letI z1 := ([(3, .own 0 (List.length z2)), (4, .str (GS.dev (gpFill s c))), (5, .int .i64 (GS.next (gpFill s c))), (6, .int .i64 (GS.miss (gpFill s c))), (8, .ptr 1 0), (10, .view 15 (List.length M) (mgRow (atM M))), (11, .int .i64 z5), (12, .int .i64 (↑k : Int))] : List (Nat × AV)); letI z0 := ([.str (MG.dev m), .int .i64 (MG.seq m), .int .i64 (MG.kind m), .str (VT.o (MG.v m)), .str (VT.p (MG.v m)), .int .i64 (VT.per (MG.v m)), .int .i64 (VT.day (MG.v m)), .int .i64 (VT.st (MG.v m)), .int .i64 (VT.pr (MG.v m)), .str (VT.rep (MG.v m)), .str (DT.o (MG.d m)), .str (DT.p (MG.d m)), .int .i64 (DT.per (MG.d m)), .str (DT.dev (MG.d m)), .int .i64 (DT.num (MG.d m))] : List AV); letI z4 := ([(0, .row 79 2 (List.length z2) (mkRow (atK z2)) false), (1, .cells z0 56)] : List (Nat × AObj)); condP (decide (GS.next (gpFill s c) < MG.seq m)) (condP (decide (GS.miss (gpFill s c) < (400 : Int))) ((2 ≤ 16777216 ∧ 2 = 2 ∧ 1 ≤ 9223372036854775807) ∧ ((1 ≤ 1 ∧ 2 = 2) ∧ List.length z2 ≤ List.length z2 ∧ 2 = 2 ∧ 79 = 79 ∧ 2 = 2 ∧ List.length z2 + 1 ≤ 9223372036854775807 ∧ (List.length z2 + 1) * TI.bytes z3 ≤ 140737488355328) ∧ inR .i64 (GS.miss (gpFill s c) + (1 : Int)) ∧ inR .i64 (GS.next (gpFill s c) + (1 : Int)) ∧ ∃ (i' : Nat), letI z6 := GS.out (gpFill s i'); (TEq [(3, .own 0 (List.length z2 + 1)), (4, .str (GS.dev (gpFill s c))), (5, .int .i64 (GS.next (gpFill s c) + (1 : Int))), (6, .int .i64 (GS.miss (gpFill s c) + (1 : Int))), (8, .ptr 1 0), (10, .view 15 (List.length M) (mgRow (atM M))), (11, .int .i64 z5), (12, .int .i64 (↑k : Int))] [(3, .own 0 (List.length z6)), (4, .str (GS.dev (gpFill s i'))), (5, .int .i64 (GS.next (gpFill s i'))), (6, .int .i64 (GS.miss (gpFill s i'))), (8, .ptr 1 0), (10, .view 15 (List.length M) (mgRow (atM M))), (11, .int .i64 z5), (12, .int .i64 (↑k : Int))] ∧ RowsEq [(0, .row 79 2 (List.length z2 + 1) (apF (List.length z2) (mkRow (atK z2)) (chunkA (TI.sz z3) (.str (GS.dev (gpFill s c)) :: .int .i64 (GS.next (gpFill s c)) :: List.append [] (List.flatten (List.replicate (nat_lit 0) [.str ([]), .int .i64 0]))))) false), (1, .cells z0 56)] [(0, .row 79 2 (List.length z6) (mkRow (atK z6)) false), (1, .cells z0 56)]) ∧ P i') ((∀ (i : Nat), i < List.length z2 → true = true) ∧ ∃ (O' : List (Nat × AObj)), RowsEq z4 O' ∧ R (.exit 2) (St.mk z1 O' 2 []))) ((∀ (i : Nat), i < List.length z2 → true = true) ∧ ∃ (O' : List (Nat × AObj)), RowsEq z4 O' ∧ R (.exit 2) (St.mk z1 O' 2 []))) := by kernel_rfl
theorem nf_gp_round (M : List MG) (k : Nat) (P : Nat → Prop) (R : Exit → St → Prop) : roundP ⟨te, [], [(8, L_gi M k (gpDev (gpF M k) (atM M k)) (atM M k))], 0, 45, 0⟩ (loopB Tryz.f51 4) [3, 4, 5, 6, 10, 11, 12] [3] [] (S_gp M) P R (S_gp M k) = (letI z11 := GS.out (gpF M k); letI z10 := (MG.seq (atM M k) + (1 : Int)); letI z8 := List.length z11; letI z7 := (↑(List.length M) : Int); letI z3 := (atM M (Int.toNat (↑k : Int))); letI z1 := ([(0, .row 79 2 z8 (mkRow (atK z11)) false), (1, .cells [.str (MG.dev z3), .int .i64 (MG.seq z3), .int .i64 (MG.kind z3), .str (VT.o (MG.v z3)), .str (VT.p (MG.v z3)), .int .i64 (VT.per (MG.v z3)), .int .i64 (VT.day (MG.v z3)), .int .i64 (VT.st (MG.v z3)), .int .i64 (VT.pr (MG.v z3)), .str (VT.rep (MG.v z3)), .str (DT.o (MG.d z3)), .str (DT.p (MG.d z3)), .int .i64 (DT.per (MG.d z3)), .str (DT.dev (MG.d z3)), .int .i64 (DT.num (MG.d z3))] 56)] : List (Nat × AObj)); letI z0 := gpDev (gpF M k) (atM M k); letI z12 := GS.out (gpFill z0 0); letI z6 := gpFill z0 (gpCnt z0 (MG.seq (atM M k))); letI z9 := ([(0, .row 79 2 (List.length (GS.out z6)) (mkRow (atK (GS.out z6))) false)] : List (Nat × AObj)); letI z5 := ([(3, .own 0 (List.length z12)), (4, .str (GS.dev (gpFill z0 0))), (5, .int .i64 (GS.next (gpFill z0 0))), (6, .int .i64 (GS.miss (gpFill z0 0))), (8, .ptr 1 0), (10, .view 15 (List.length M) (mgRow (atM M))), (11, .int .i64 z7), (12, .int .i64 (↑k : Int))] : List (Nat × AV)); letI z4 := ([(3, .own 0 (List.length (GS.out z6))), (4, .str (GS.dev z6)), (5, .int .i64 z10), (6, .int .i64 (GS.miss z6)), (10, .view 15 (List.length M) (mgRow (atM M))), (11, .int .i64 z7), (12, .int .i64 ((↑k : Int) + (1 : Int)))] : List (Nat × AV)); letI z2 := ([(0, .row 79 2 (List.length z12) (mkRow (atK z12)) false), (1, .cells [.str (MG.dev (atM M k)), .int .i64 (MG.seq (atM M k)), .int .i64 (MG.kind (atM M k)), .str (VT.o (MG.v (atM M k))), .str (VT.p (MG.v (atM M k))), .int .i64 (VT.per (MG.v (atM M k))), .int .i64 (VT.day (MG.v (atM M k))), .int .i64 (VT.st (MG.v (atM M k))), .int .i64 (VT.pr (MG.v (atM M k))), .str (VT.rep (MG.v (atM M k))), .str (DT.o (MG.d (atM M k))), .str (DT.p (MG.d (atM M k))), .int .i64 (DT.per (MG.d (atM M k))), .str (DT.dev (MG.d (atM M k))), .int .i64 (DT.num (MG.d (atM M k)))] 56)] : List (Nat × AObj)); condP (decide ((↑k : Int) < z7)) (((0 : Int) ≤ (↑k : Int) ∧ (↑k : Int) < z7 ∧ 15 = 15) ∧ condP (!decide (MG.dev z3 = GS.dev (gpF M k))) ((TEq [(3, .own 0 z8), (4, .str (MG.dev z3)), (5, .int .i64 1), (6, .int .i64 0), (8, .ptr 1 0), (10, .view 15 (List.length M) (mgRow (atM M))), (11, .int .i64 z7), (12, .int .i64 (↑k : Int))] z5 ∧ RowsEq z1 z2) ∧ List.length (GS.out z0) ≤ 100000000 ∧ ((-1 : Int) ≤ GS.next z0 ∧ GS.next z0 ≤ (1048577 : Int)) ∧ ((0 : Int) ≤ GS.miss z0 ∧ GS.miss z0 ≤ (400 : Int)) ∧ ((1 : Int) ≤ MG.seq (atM M k) ∧ MG.seq (atM M k) ≤ (1048576 : Int)) ∧ inR .i64 z10 ∧ inR .i64 ((↑k : Int) + (1 : Int)) ∧ ∃ (i' : Nat), (TEq z4 [(3, .own 0 (List.length (GS.out (gpF M i')))), (4, .str (GS.dev (gpF M i'))), (5, .int .i64 (GS.next (gpF M i'))), (6, .int .i64 (GS.miss (gpF M i'))), (10, .view 15 (List.length M) (mgRow (atM M))), (11, .int .i64 z7), (12, .int .i64 (↑i' : Int))] ∧ RowsEq z9 [(0, .row 79 2 (List.length (GS.out (gpF M i'))) (mkRow (atK (GS.out (gpF M i')))) false)]) ∧ P i') ((TEq [(3, .own 0 z8), (4, .str (GS.dev (gpF M k))), (5, .int .i64 (GS.next (gpF M k))), (6, .int .i64 (GS.miss (gpF M k))), (8, .ptr 1 0), (10, .view 15 (List.length M) (mgRow (atM M))), (11, .int .i64 z7), (12, .int .i64 (↑k : Int))] z5 ∧ RowsEq z1 z2) ∧ List.length (GS.out z0) ≤ 100000000 ∧ ((-1 : Int) ≤ GS.next z0 ∧ GS.next z0 ≤ (1048577 : Int)) ∧ ((0 : Int) ≤ GS.miss z0 ∧ GS.miss z0 ≤ (400 : Int)) ∧ ((1 : Int) ≤ MG.seq (atM M k) ∧ MG.seq (atM M k) ≤ (1048576 : Int)) ∧ inR .i64 z10 ∧ inR .i64 ((↑k : Int) + (1 : Int)) ∧ ∃ (i' : Nat), (TEq z4 [(3, .own 0 (List.length (GS.out (gpF M i')))), (4, .str (GS.dev (gpF M i'))), (5, .int .i64 (GS.next (gpF M i'))), (6, .int .i64 (GS.miss (gpF M i'))), (10, .view 15 (List.length M) (mgRow (atM M))), (11, .int .i64 z7), (12, .int .i64 (↑i' : Int))] ∧ RowsEq z9 [(0, .row 79 2 (List.length (GS.out (gpF M i'))) (mkRow (atK (GS.out (gpF M i')))) false)]) ∧ P i')) ((∀ (i : Nat), i < List.length z11 → true = true) ∧ ∃ (O' : List (Nat × AObj)), RowsEq [(0, .row 79 2 z8 (mkRow (atK z11)) false)] O' ∧ R (.exit 0) (St.mk [(3, .own 0 z8)] O' 1 []))) := by kernel_rfl
theorem mrgVN_ok (hP : C.P = Tryz.prog) (hL : ∀ w, C.laid w → LaidW w) : SpecOK C 38 S_mrgVN := by
  rintro args objs U Os vc h hvc
  unfold S_mrgVN at h
  split at h <;> simp only [Option.some.injEq, Prod.mk.injEq, reduceCtorEq] at h
  rename_i n f
  obtain ⟨rfl, rfl, rfl⟩ := h
  obtain ⟨hn, hf, hs⟩ := hvc
  refine ACalls.nilArg 15 (mgRow noM) ?_
  exact mrgV_ok hP hL _ _ _ _ _ rfl ⟨hn, Nat.zero_le _, hf, rfl, hs, fun i hi => absurd hi (Nat.not_lt_zero i)⟩
theorem gpCnt_le (s : GS) (seq : Int) (h : 0 ≤ s.miss) : (gpCnt s seq : Int) ≤ 400 := by
  unfold gpCnt; omega
theorem gpFill_succ (s : GS) (c : Nat) : gpFill s (c + 1) = ⟨(gpFill s c).out ++ [(s.dev, s.next + (c : Int))], s.dev, s.next + ((c : Int) + 1), s.miss + ((c : Int) + 1)⟩ := by
  unfold gpFill
  rw [List.range_succ, List.map_append, ← List.append_assoc]
  rfl
theorem gpFill_len (s : GS) (c : Nat) : (gpFill s c).out.length = s.out.length + c := by
  unfold gpFill
  simp
theorem gpFill_zero (s : GS) : gpFill s 0 = s := by
  unfold gpFill
  simp
theorem gi_loop (hP : C.P = Tryz.prog) (M : List MG) (k : Nat) (s : GS) (m : MG) : LoopOK C 0 45 (loopC Tryz.f51 8) (L_gi M k s m) := by
  have _ : C.Loose := inferInstance
  rintro st Q ⟨h0, ho, hx, hm, hs, hQ⟩
  refine LoopOK.mk (prg hP) [] 0 .nil [3, 4, 5, 6, 8, 10, 11, 12] [3, 4, 5, 6, 8, 10, 11, 12] [] (S_gi M k s m) (fun c => c ≤ gpCnt s m.seq) (fun c => gpCnt s m.seq - c) 0 (Nat.zero_le _) h0 (fun c hc => ?_) (fun i => ⟨fun _ _ => rfl, trivial⟩)
  rw [nf_gi_round]
  have hlen := gpFill_len s c
  refine condP_dec (fun h1 => condP_dec (fun h2 => ?_) (fun h2 => ?_)) (fun h1 => ?_)
  · have h1 : s.next + (c : Int) < m.seq := h1
    have h2 : s.miss + (c : Int) < 400 := h2
    have hlt : c < gpCnt s m.seq := by unfold gpCnt; omega
    have hc4 := gpCnt_le s m.seq hm.1
    have e1 : (gpFill s (c + 1)).out = (gpFill s c).out ++ [(s.dev, s.next + (c : Int))] := by rw [gpFill_succ]
    have e3 : (gpFill s (c + 1)).next = (gpFill s c).next + 1 := by show s.next + ((c + 1 : Nat) : Int) = s.next + (c : Int) + 1; omega
    have e4 : (gpFill s (c + 1)).miss = (gpFill s c).miss + 1 := by show s.miss + ((c + 1 : Nat) : Int) = s.miss + (c : Int) + 1; omega
    refine ⟨⟨by omega, rfl, by omega⟩, ⟨⟨Nat.le_refl _, rfl⟩, Nat.le_refl _, rfl, rfl, rfl, by omega, ?_⟩, ?_, ?_, c + 1, ?_, by omega, by omega⟩
    · show ((gpFill s c).out.length + 1) * 24 ≤ _
      omega
    · show inR .i64 (s.miss + (c : Int) + 1)
      simp only [inR]; omega
    · show inR .i64 (s.next + (c : Int) + 1)
      simp only [inR]; omega
    · rw [e1, e3, e4, List.length_append]
      exact ⟨rfl, ⟨rfl, rfl, rfl, rfl, rfl, fun j hj => putRowL (fun x : List UInt8 × Int => [AV.str x.1, .int .i64 x.2]) (gpFill s c).out (s.dev, s.next + (c : Int)) _ rfl j hj⟩, rfl, trivial⟩
  · have h2 : ¬ s.miss + (c : Int) < 400 := h2
    have : gpCnt s m.seq = c := by unfold gpCnt at hc ⊢; omega
    rw [this] at hQ
    exact ⟨fun _ _ => rfl, _, rowsEqR _, hQ⟩
  · have h1 : ¬ s.next + (c : Int) < m.seq := h1
    have : gpCnt s m.seq = c := by unfold gpCnt at hc ⊢; omega
    rw [this] at hQ
    exact ⟨fun _ _ => rfl, _, rowsEqR _, hQ⟩
theorem gp_loop (hP : C.P = Tryz.prog) (M : List MG) : LoopOK C 0 45 (loopC Tryz.f51 4) (L_gp M) := by
  rintro st Q ⟨h0, hn, hv, hQ⟩
  refine AWP.ownNil 3 79 2 ?_
  refine LoopOK.mkI (prg hP) [] (fun k : Nat => [(8, L_gi M k (gpDev (gpF M k) (atM M k)) (atM M k))]) 0 .nil
    (fun k => [(loopC Tryz.f51 8, L_gi M k (gpDev (gpF M k) (atM M k)) (atM M k))])
    (fun k => by kernel_rfl) (fun k => ⟨gi_loop hP _ _ _ _, trivial⟩) [3, 4, 5, 6, 10, 11, 12] [3] [] (S_gp M) (fun k => k ≤ M.length ∧ (gpF M k).out.length ≤ 400 * k ∧ (1 ≤ (gpF M k).next ∧ (gpF M k).next ≤ 1048577) ∧ (0 ≤ (gpF M k).miss ∧ (gpF M k).miss ≤ 400)) (fun k => M.length - k) 0 ⟨Nat.zero_le _, Nat.zero_le _, (by decide : (1 : Int) ≤ 1 ∧ (1 : Int) ≤ 1048577), (by decide : (0 : Int) ≤ 0 ∧ (0 : Int) ≤ 400)⟩ h0 (fun k hk => ?_) (fun i => ⟨fun _ _ => rfl, trivial⟩)
  obtain ⟨hk, i1, i2, i3⟩ := hk
  rw [nf_gp_round, Int.toNat_natCast, gpFill_zero]
  refine condP_dec (fun h1 => ?_) (fun h1 => ?_)
  · have hkM : k < M.length := by omega
    obtain ⟨_, q1, q2⟩ := msgF_seq (hv _ (atM_mem hkM))
    have hsu : gpF M (k + 1) = ⟨(gpFill (gpDev (gpF M k) (atM M k)) (gpCnt (gpDev (gpF M k) (atM M k)) (atM M k).seq)).out, (atM M k).dev, (atM M k).seq + 1, (gpFill (gpDev (gpF M k) (atM M k)) (gpCnt (gpDev (gpF M k) (atM M k)) (atM M k).seq)).miss⟩ := rfl
    have b1 : ¬ (atM M k).dev = (gpF M k).dev → gpDev (gpF M k) (atM M k) = ⟨(gpF M k).out, (atM M k).dev, 1, 0⟩ := fun q => by unfold gpDev; rw [decide_eq_false q]; rfl
    have b2 : (atM M k).dev = (gpF M k).dev → gpDev (gpF M k) (atM M k) = gpF M k := fun q => by unfold gpDev; rw [decide_eq_true q]; rfl
    have facts : (gpDev (gpF M k) (atM M k)).dev = (atM M k).dev ∧ (gpDev (gpF M k) (atM M k)).out.length ≤ 400 * k ∧ (1 ≤ (gpDev (gpF M k) (atM M k)).next ∧ (gpDev (gpF M k) (atM M k)).next ≤ 1048577) ∧ (0 ≤ (gpDev (gpF M k) (atM M k)).miss ∧ (gpDev (gpF M k) (atM M k)).miss ≤ 400) := by
      by_cases q : (atM M k).dev = (gpF M k).dev
      · rw [b2 q]; exact ⟨q.symm, i1, i2, i3⟩
      · rw [b1 q]; exact ⟨rfl, i1, (by decide : (1 : Int) ≤ 1 ∧ (1 : Int) ≤ 1048577), (by decide : (0 : Int) ≤ 0 ∧ (0 : Int) ≤ 400)⟩
    generalize gpDev (gpF M k) (atM M k) = s1 at *
    obtain ⟨f1, f2, f3, f4⟩ := facts
    have hcnt := gpCnt_le s1 (atM M k).seq f4.1
    have hlen := gpFill_len s1 (gpCnt s1 (atM M k).seq)
    have hmiss : s1.miss + (gpCnt s1 (atM M k).seq : Int) ≤ 400 := by unfold gpCnt; omega
    refine ⟨⟨by omega, by omega, rfl⟩, condP_ndec (fun q => ⟨?_, by omega, by omega, by omega, ⟨q1, q2⟩, by simp only [inR]; omega, by simp only [inR]; omega, k + 1, ?_, ⟨hkM, ?_, ?_, ?_⟩, by omega⟩) (fun q => ⟨?_, by omega, by omega, by omega, ⟨q1, q2⟩, by simp only [inR]; omega, by simp only [inR]; omega, k + 1, ?_, ⟨hkM, ?_, ?_, ?_⟩, by omega⟩)⟩
    · rw [b1 q]; exact ⟨rfl, rowsEqR _⟩
    · rw [hsu, show (gpFill s1 (gpCnt s1 (atM M k).seq)).dev = (atM M k).dev from f1]
      exact ⟨rfl, rowsEqR _⟩
    · rw [hsu]; show (gpFill s1 (gpCnt s1 (atM M k).seq)).out.length ≤ _; omega
    · rw [hsu]; show 1 ≤ (atM M k).seq + 1 ∧ (atM M k).seq + 1 ≤ 1048577; omega
    · rw [hsu]; show 0 ≤ s1.miss + (gpCnt s1 (atM M k).seq : Int) ∧ s1.miss + (gpCnt s1 (atM M k).seq : Int) ≤ 400; omega
    · rw [b2 q]; exact ⟨rfl, rowsEqR _⟩
    · rw [hsu, show (gpFill s1 (gpCnt s1 (atM M k).seq)).dev = (atM M k).dev from f1]
      exact ⟨rfl, rowsEqR _⟩
    · rw [hsu]; show (gpFill s1 (gpCnt s1 (atM M k).seq)).out.length ≤ _; omega
    · rw [hsu]; show 1 ≤ (atM M k).seq + 1 ∧ (atM M k).seq + 1 ≤ 1048577; omega
    · rw [hsu]; show 0 ≤ s1.miss + (gpCnt s1 (atM M k).seq : Int) ∧ s1.miss + (gpCnt s1 (atM M k).seq : Int) ≤ 400; omega
  · have : k = M.length := by omega
    subst this
    exact ⟨fun _ _ => rfl, _, rowsEqR _, hQ⟩
theorem gaps_ok (hP : C.P = Tryz.prog) (hL : ∀ w, C.laid w → LaidW w) : SpecOK C 51 S_gaps := by
  rintro args objs U Os vc h hvc
  unfold S_gaps at h
  split at h <;> simp only [Option.some.injEq, Prod.mk.injEq, reduceCtorEq] at h
  rename_i n f
  obtain ⟨rfl, rfl, rfl⟩ := h
  obtain ⟨hn, hf, hs⟩ := hvc
  generalize mgOf f = g at *
  subst hf
  refine ACalls.frzO 0 ?_
  refine RSpecOK.wpL (prg hP) [(38, .det S_mrgVN)] [(4, L_gp (mrgL g n noM 0))] 0 (.cons (mrgVN_ok hP hL) .nil) (hP ▸ Tryz.func51) rfl rfl rfl [(loopC Tryz.f51 4, L_gp (mrgL g n noM 0))] (by kernel_rfl) ⟨gp_loop hP _, trivial⟩ ?_
  rw [nf_gaps]
  have h1 := mrgL_len g n noM 0
  refine ⟨⟨hn, rfl, hs⟩, ⟨rfl, ⟨rfl, rfl, rfl, rfl, rfl, fun i hi => absurd hi (Nat.not_lt_zero i)⟩, trivial⟩, by omega, fun m hm => (mrgF_mem.1 hm).2, fun _ _ => rfl, _, rowsEqR _, fun _ _ => rfl, ?_⟩
  unfold gapL
  generalize (gpF (mrgL g n noM 0) (mrgL g n noM 0).length).out = L
  have hb : Nat.ble L.length L.length = true := Nat.ble_eq_true_of_le (Nat.le_refl _)
  constructor
  · simp [frzC, frzA, frz, hb]
  · rfl
theorem gapsO_ok (hP : C.P = Tryz.prog) (hL : ∀ w, C.laid w → LaidW w) : SpecOK C 51 S_gapsO := by
  rintro args objs U Os vc h hvc
  unfold S_gapsO at h
  split at h <;> simp only [Option.some.injEq, Prod.mk.injEq, reduceCtorEq] at h
  rename_i n t m f fr
  obtain ⟨rfl, rfl, rfl⟩ := h
  obtain ⟨rfl, hn, ⟨hf, hs⟩⟩ := hvc
  refine ACalls.rowEq 0 (f' := mgRow (mgOf f)) rfl (fun i hi => (hf i hi).symm) ?_
  have hb : Nat.ble n n = true := Nat.ble_eq_true_of_le (Nat.le_refl _)
  exact ADet.give (gaps_ok hP hL [.view 15 n (mgRow (mgOf f))] [] _ _ _ rfl ⟨hn, rfl, hs⟩) (by simp [frzC, frzA, frz, hb]) rfl rfl (fun _ _ => rfl)
end Go.Eng
namespace Go.Eng
def S_lg (m : MG) (L : List (List UInt8 × Int)) (k : Nat) : St := ⟨[(6, .ptr 0 0), (29, .view 2 L.length (mkRow (atK L))), (30, .int .i64 L.length), (31, .int .i64 k)],
  [(0, .cells [.str m.dev, .int .i64 m.seq, .int .i64 m.kind, .str m.v.o, .str m.v.p, .int .i64 m.v.per, .int .i64 m.v.day, .int .i64 m.v.st, .int .i64 m.v.pr, .str m.v.rep, .str m.d.o, .str m.d.p, .int .i64 m.d.per, .str m.d.dev, .int .i64 m.d.num] 56)], 1, []⟩
def L_lg : LSpec := fun st Q => ∃ (m : MG) (L : List (List UInt8 × Int)), canonIs te 0 [6, 29, 30, 31] st (S_lg m L 0) ∧ L.length ≤ 400 ∧ (∀ i, i < L.length → atK L i = (m.dev, (i : Int) + 1)) ∧ Q (.exit 0) ⟨[], [], 0, []⟩
def S_foldB : Spec
  | [.int .i64 n, .int .i64 k], [] => some (.int .i64 (foldV n k), [], 1 ≤ k ∧ k ≤ 4294967296)
  | _, _ => none
end Go.Eng
namespace Go.Eng
open Go.Proofs Go.RowKit
variable {C : Ctx} [C.Loose]
def shrtQ0 : TI := (TI.mk (TypeDesc.struct #[Field.mk "Device" (9 : TypeId) 0 false "" "" 0, Field.mk "Sequence" (3 : TypeId) 1 false "" "" 16, Field.mk "Kind" (3 : TypeId) 2 false "" "" 24, Field.mk "Visit" (52 : TypeId) 3 false "" "" 32, Field.mk "Decision" (54 : TypeId) 10 false "" "" 112]) 15 176 (Value.agg #[Value.string (ByteArray.mk #[]), Value.int IntKind.i64 0, Value.int IntKind.i64 0, Value.string (ByteArray.mk #[]), Value.string (ByteArray.mk #[]), Value.int IntKind.i64 0, Value.int IntKind.i64 0, Value.int IntKind.i64 0, Value.int IntKind.i64 0, Value.string (ByteArray.mk #[]), Value.string (ByteArray.mk #[]), Value.string (ByteArray.mk #[]), Value.int IntKind.i64 0, Value.string (ByteArray.mk #[]), Value.int IntKind.i64 0]) true)
set_option maxRecDepth 20000
theorem nf_lgp (x : Int) (n : Nat) (v : Nat → Int) (R : AV → List (Nat × AObj) → Prop) : wpFn te [(46, .rel R_mmsg), (23, .det S_foldB), (51, .det S_gapsO), (35, .det S_awake11)] [(8, L_lg)] 0 Tryz.f14 [.int .i64 x, .view 1 n (intRow v)] [] R = (letI z0 := (List.flatten (List.replicate (nat_lit 0) [.str ([]), .int .i64 0, .int .i64 0, .str ([]), .str ([]), .int .i64 0, .int .i64 0, .int .i64 0, .int .i64 0, .str ([]), .str ([]), .str ([]), .int .i64 0, .str ([]), .int .i64 0]) : List AV); 28 = 28 ∧   1 = 1 ∧     intRow v = intRow (vInt (intRow v)) ∧       ((0 : Int) ≤ (0 : Int) ∧ (0 : Int) ≤ (4611686018427385000 : Int)) ∧         ∀ (m : MG) (a' : Int),           MG.Made m →             (0 : Int) ≤ a' ∧ a' ≤ (0 : Int) + (10 : Int) →               ((1 : Int) ≤ (1048576 : Int) ∧ (1048576 : Int) ≤ (4294967296 : Int)) ∧                 inR .i64 ((1 : Int) + foldV x (1048576 : Int)) ∧                   (15 ≤ 16777216 ∧ 15 = 15 ∧ 1 ≤ 9223372036854775807) ∧                     (∀ (i : Nat), i < 1 → nrefL (chunkA (TI.sz shrtQ0) (.str (MG.dev m) :: .int .i64 ((1 : Int) + foldV x (1048576 : Int)) :: .int .i64 (MG.kind m) :: .str (VT.o (MG.v m)) :: .str (VT.p (MG.v m)) :: .int .i64 (VT.per (MG.v m)) :: .int .i64 (VT.day (MG.v m)) :: .int .i64 (VT.st (MG.v m)) :: .int .i64 (VT.pr (MG.v m)) :: .str (VT.rep (MG.v m)) :: .str (DT.o (MG.d m)) :: .str (DT.p (MG.d m)) :: .int .i64 (DT.per (MG.d m)) :: .str (DT.dev (MG.d m)) :: .int .i64 (DT.num (MG.d m)) :: List.append [] z0) i) = true) ∧                       (1 = 1 ∧ 1 ≤ 100000 ∧ RM (chunkA (TI.sz shrtQ0) (.str (MG.dev m) :: .int .i64 ((1 : Int) + foldV x (1048576 : Int)) :: .int .i64 (MG.kind m) :: .str (VT.o (MG.v m)) :: .str (VT.p (MG.v m)) :: .int .i64 (VT.per (MG.v m)) :: .int .i64 (VT.day (MG.v m)) :: .int .i64 (VT.st (MG.v m)) :: .int .i64 (VT.pr (MG.v m)) :: .str (VT.rep (MG.v m)) :: .str (DT.o (MG.d m)) :: .str (DT.p (MG.d m)) :: .int .i64 (DT.per (MG.d m)) :: .str (DT.dev (MG.d m)) :: .int .i64 (DT.num (MG.d m)) :: List.append [] z0)) 1) ∧                         inR .i64 ((1 : Int) + foldV x (1048576 : Int) - (1 : Int)) ∧                           condP (!decide ((↑(List.length (gapL (mgOf (chunkA (TI.sz shrtQ0) (.str (MG.dev m) :: .int .i64 ((1 : Int) + foldV x (1048576 : Int)) :: .int .i64 (MG.kind m) :: .str (VT.o (MG.v m)) :: .str (VT.p (MG.v m)) :: .int .i64 (VT.per (MG.v m)) :: .int .i64 (VT.day (MG.v m)) :: .int .i64 (VT.st (MG.v m)) :: .int .i64 (VT.pr (MG.v m)) :: .str (VT.rep (MG.v m)) :: .str (DT.o (MG.d m)) :: .str (DT.p (MG.d m)) :: .int .i64 (DT.per (MG.d m)) :: .str (DT.dev (MG.d m)) :: .int .i64 (DT.num (MG.d m)) :: List.append [] z0))) 1)) : Int) = min ((1 : Int) + foldV x (1048576 : Int) - (1 : Int)) (400 : Int))) (R (.bool false) [])                             (∃ (m_1 : MG),                               ∃ (L : List (List UInt8 × Int)),                                 some (St.mk [(6, .ptr 0 0), (29, .view 2 (List.length (gapL (mgOf (chunkA (TI.sz shrtQ0) (.str (MG.dev m) :: .int .i64 ((1 : Int) + foldV x (1048576 : Int)) :: .int .i64 (MG.kind m) :: .str (VT.o (MG.v m)) :: .str (VT.p (MG.v m)) :: .int .i64 (VT.per (MG.v m)) :: .int .i64 (VT.day (MG.v m)) :: .int .i64 (VT.st (MG.v m)) :: .int .i64 (VT.pr (MG.v m)) :: .str (VT.rep (MG.v m)) :: .str (DT.o (MG.d m)) :: .str (DT.p (MG.d m)) :: .int .i64 (DT.per (MG.d m)) :: .str (DT.dev (MG.d m)) :: .int .i64 (DT.num (MG.d m)) :: List.append [] z0))) 1)) (mkRow (atK (gapL (mgOf (chunkA (TI.sz shrtQ0) (.str (MG.dev m) :: .int .i64 ((1 : Int) + foldV x (1048576 : Int)) :: .int .i64 (MG.kind m) :: .str (VT.o (MG.v m)) :: .str (VT.p (MG.v m)) :: .int .i64 (VT.per (MG.v m)) :: .int .i64 (VT.day (MG.v m)) :: .int .i64 (VT.st (MG.v m)) :: .int .i64 (VT.pr (MG.v m)) :: .str (VT.rep (MG.v m)) :: .str (DT.o (MG.d m)) :: .str (DT.p (MG.d m)) :: .int .i64 (DT.per (MG.d m)) :: .str (DT.dev (MG.d m)) :: .int .i64 (DT.num (MG.d m)) :: List.append [] z0))) 1)))), (30, .int .i64 (↑(List.length (gapL (mgOf (chunkA (TI.sz shrtQ0) (.str (MG.dev m) :: .int .i64 ((1 : Int) + foldV x (1048576 : Int)) :: .int .i64 (MG.kind m) :: .str (VT.o (MG.v m)) :: .str (VT.p (MG.v m)) :: .int .i64 (VT.per (MG.v m)) :: .int .i64 (VT.day (MG.v m)) :: .int .i64 (VT.st (MG.v m)) :: .int .i64 (VT.pr (MG.v m)) :: .str (VT.rep (MG.v m)) :: .str (DT.o (MG.d m)) :: .str (DT.p (MG.d m)) :: .int .i64 (DT.per (MG.d m)) :: .str (DT.dev (MG.d m)) :: .int .i64 (DT.num (MG.d m)) :: List.append [] z0))) 1)) : Int)), (31, .int .i64 0)] [(0, .cells [.str (MG.dev m), .int .i64 ((1 : Int) + foldV x (1048576 : Int)), .int .i64 (MG.kind m), .str (VT.o (MG.v m)), .str (VT.p (MG.v m)), .int .i64 (VT.per (MG.v m)), .int .i64 (VT.day (MG.v m)), .int .i64 (VT.st (MG.v m)), .int .i64 (VT.pr (MG.v m)), .str (VT.rep (MG.v m)), .str (DT.o (MG.d m)), .str (DT.p (MG.d m)), .int .i64 (DT.per (MG.d m)), .str (DT.dev (MG.d m)), .int .i64 (DT.num (MG.d m))] 56)] 1 []) = some (St.mk [(6, .ptr 0 0), (29, .view 2 (List.length L) (mkRow (atK L))), (30, .int .i64 (↑(List.length L) : Int)), (31, .int .i64 (↑0 : Int))] [(0, .cells [.str (MG.dev m_1), .int .i64 (MG.seq m_1), .int .i64 (MG.kind m_1), .str (VT.o (MG.v m_1)), .str (VT.p (MG.v m_1)), .int .i64 (VT.per (MG.v m_1)), .int .i64 (VT.day (MG.v m_1)), .int .i64 (VT.st (MG.v m_1)), .int .i64 (VT.pr (MG.v m_1)), .str (VT.rep (MG.v m_1)), .str (DT.o (MG.d m_1)), .str (DT.p (MG.d m_1)), .int .i64 (DT.per (MG.d m_1)), .str (DT.dev (MG.d m_1)), .int .i64 (DT.num (MG.d m_1))] 56)] 1 []) ∧                                   List.length L ≤ 400 ∧                                     (∀ (i : Nat),                                         i < List.length L →                                           (match L[i]? with                                             | some x => x                                             | none => ([], (0 : Int))) =                                             (MG.dev m_1, (↑i : Int) + (1 : Int))) ∧                                       True ∧ R (.bool true) [])) := by kernel_rfl
theorem nf_lg_round (m : MG) (L : List (List UInt8 × Int)) (k : Nat) (P : Nat → Prop) (R : Exit → St → Prop) : roundP ⟨te, [], [], 0, 45, 0⟩ (loopB Tryz.f14 8) [6, 29, 30, 31] [] [] (S_lg m L) P R (S_lg m L k) = (letI z1 := (↑(List.length L) : Int); letI z0 := ([(0, .cells [.str (MG.dev m), .int .i64 (MG.seq m), .int .i64 (MG.kind m), .str (VT.o (MG.v m)), .str (VT.p (MG.v m)), .int .i64 (VT.per (MG.v m)), .int .i64 (VT.day (MG.v m)), .int .i64 (VT.st (MG.v m)), .int .i64 (VT.pr (MG.v m)), .str (VT.rep (MG.v m)), .str (DT.o (MG.d m)), .str (DT.p (MG.d m)), .int .i64 (DT.per (MG.d m)), .str (DT.dev (MG.d m)), .int .i64 (DT.num (MG.d m))] 56)] : List (Nat × AObj)); condP (decide ((↑k : Int) < z1)) (((0 : Int) ≤ (↑k : Int) ∧ (↑k : Int) < z1 ∧ 2 = 2) ∧ inR .i64 ((↑k : Int) + (1 : Int)) ∧ condP (!(decide (Prod.fst (atK L (Int.toNat (↑k : Int))) = MG.dev m) && decide (Prod.snd (atK L (Int.toNat (↑k : Int))) = (↑k : Int) + (1 : Int)))) (R .ret (St.mk [] [] 0 [])) (inR .i64 ((↑k : Int) + (1 : Int)) ∧ ∃ (i' : Nat), some (St.mk [(6, .ptr 0 0), (29, .view 2 (List.length L) (mkRow (atK L))), (30, .int .i64 z1), (31, .int .i64 ((↑k : Int) + (1 : Int)))] z0 1 []) = some (St.mk [(6, .ptr 0 0), (29, .view 2 (List.length L) (mkRow (atK L))), (30, .int .i64 z1), (31, .int .i64 (↑i' : Int))] z0 1 []) ∧ P i')) (R (.exit 0) (St.mk [] [] 0 []))) := by kernel_rfl
theorem foldB_ok (hP : C.P = Tryz.prog) : SpecOK C 23 S_foldB := by
  have _ : C.Loose := inferInstance
  rintro args objs U Os vc h hvc
  unfold S_foldB at h
  split at h <;> simp only [Option.some.injEq, Prod.mk.injEq, reduceCtorEq] at h
  rename_i n k
  obtain ⟨rfl, rfl, rfl⟩ := h
  refine SpecOK.wp0 (prg hP) [] 0 .nil (hP ▸ Tryz.func23) rfl rfl rfl ?_
  rw [nf_fold]
  have e : IntKind.wrap .u64 (max k 1) = k := by
    rw [wrap_u64, Int.max_eq_left hvc.1]
    omega
  have h3 := foldV_range hvc.1 n
  have hx : 0 ≤ n % 18446744073709551616 := by omega
  have h2 : Int.tmod (IntKind.wrap .u64 n) (IntKind.wrap .u64 (max k 1)) = foldV n k := by
    rw [e, wrap_u64, Int.tmod_eq_emod_of_nonneg hx]; rfl
  rw [h2]
  exact ⟨trivial, trivial, by rw [e]; omega, by simp only [inR]; omega, rfl, rfl⟩
theorem msgF_reseq {m : MG} (h : msgF m = 0) {s : Int} (hs : 1 ≤ s ∧ s ≤ 1048576) : msgF ⟨m.dev, s, m.kind, m.v, m.d⟩ = 0 := by
  obtain ⟨h1, h2, h3⟩ := msgF_seq h
  have e1 : numF m.seq = true := by unfold numF; rw [decide_eq_true h2, decide_eq_true h3]; rfl
  have e2 : numF s = true := by unfold numF; rw [decide_eq_true hs.1, decide_eq_true hs.2]; rfl
  unfold msgF at h ⊢
  rw [e1] at h
  dsimp only
  rw [e2]
  exact h
theorem gapL_congr {g h : Nat → MG} {n : Nat} (e : ∀ i, i < n → g i = h i) : gapL g n = gapL h n := by
  have h1 : mrgL g n noM 0 = mrgL h n noM 0 := by unfold mrgL; rw [lst_congr e]
  unfold gapL
  rw [h1]
theorem gapL_one {m : MG} (hm : msgF m = 0) : gapL (atM [m]) 1 = (List.range (min (m.seq - 1).toNat 400)).map (fun i : Nat => (m.dev, (1 : Int) + (i : Int))) := by
  have h1 : mrgL (atM [m]) 1 noM 0 = [m] := mrgL_at (L := [m]) (List.pairwise_singleton _ _) (fun x => by simp; rintro rfl; exact hm)
  unfold gapL
  rw [h1]
  have h2 : gpDev gp0 m = ⟨[], m.dev, 1, 0⟩ := by
    unfold gpDev gp0
    by_cases q : m.dev = []
    · simp [q]
    · simp [q]
  show (gpFill (gpDev gp0 m) (gpCnt (gpDev gp0 m) m.seq)).out = _
  rw [h2]
  show [] ++ _ = _
  rw [List.nil_append]
  have h3 : gpCnt ⟨[], m.dev, 1, 0⟩ m.seq = min (m.seq - 1).toNat 400 := by unfold gpCnt; rfl
  rw [h3]
theorem lg_loop (hP : C.P = Tryz.prog) : LoopOK C 0 45 (loopC Tryz.f14 8) L_lg := by
  have _ : C.Loose := inferInstance
  rintro st Q ⟨m, L, h0, hn, hg, hQ⟩
  refine LoopOK.mk (prg hP) [] 0 .nil [6, 29, 30, 31] [] [] (S_lg m L) (fun k => k ≤ L.length) (fun k => L.length - k) 0 (Nat.zero_le _) h0 (fun k hk => ?_)
  rw [nf_lg_round, Int.toNat_natCast]
  refine condP_dec (fun h1 => ?_) (fun h1 => ?_)
  · have hk : k < L.length := by omega
    rw [hg k hk]
    refine ⟨⟨by omega, by omega, rfl⟩, by simp only [inR]; omega, condP_not (fun q => ?_) (fun _ => ⟨by simp only [inR]; omega, k + 1, rfl, by omega, by omega⟩)⟩
    simp at q
  · have : k = L.length := by omega
    subst this
    exact hQ
theorem lgp_ok (hP : C.P = Tryz.prog) (hL : ∀ w, C.laid w → LaidW w) (x : Int) (n : Nat) (v : Nat → Int) : ADet C 14 [.int .i64 x, .view 1 n (intRow v)] [] (.bool true) [] := by
  refine SpecOK.wpL (prg hP) [(46, .rel R_mmsg), (23, .det S_foldB), (51, .det S_gapsO), (35, .det S_awake11)] [(8, L_lg)] 0
    (.cons (mmsg_ok hP) (.cons (foldB_ok hP) (.cons (gapsO_ok hP hL) (.cons (awake11_ok hP hL) .nil)))) (hP ▸ Tryz.func14) rfl rfl rfl [(loopC Tryz.f14 8, L_lg)] (by kernel_rfl) ⟨lg_loop hP, trivial⟩ ?_
  rw [nf_lgp]
  refine ⟨rfl, rfl, rfl, by omega, fun m a' hm ha' => ?_⟩
  have r := foldV_range (show (1 : Int) ≤ 1048576 by omega) x
  generalize hs : (1 : Int) + foldV x 1048576 = s at *
  have hok : msgF ⟨m.dev, s, m.kind, m.v, m.d⟩ = 0 := msgF_reseq hm.ok (by omega)
  have hsm : MG.Sm ⟨m.dev, s, m.kind, m.v, m.d⟩ := ⟨by have := hm.dev; show m.dev.length < _; omega, by have := hm.o; show m.v.o.length < _; omega, by have := hm.o'; show m.d.o.length < _; omega, by have := hm.dd; show m.d.dev.length < _; omega⟩
  generalize hf : chunkA _ _ = f
  have f0 : f 0 = mgC ⟨m.dev, s, m.kind, m.v, m.d⟩ := by rw [← hf]; rfl
  have e0 : gapL (mgOf f) 1 = gapL (atM [⟨m.dev, s, m.kind, m.v, m.d⟩]) 1 := gapL_congr (oneI (mgOfM f0))
  rw [e0, gapL_one hok]
  dsimp only
  have hlen : (List.map (fun i : Nat => (m.dev, (1 : Int) + (i : Int))) (List.range (min (s - 1).toNat 400))).length = min (s - 1).toNat 400 := by simp
  refine ⟨⟨by omega, by omega⟩, by simp only [inR]; omega, ⟨by omega, rfl, by omega⟩, oneI (cellsM f0).2, ⟨rfl, by omega, ⟨oneI (cellsM f0).1, oneI (by rw [mgOfM f0]; exact hsm)⟩⟩, by simp only [inR]; omega, condP_ndec (fun q => absurd (by rw [hlen]; omega) q) (fun _ => ⟨⟨m.dev, s, m.kind, m.v, m.d⟩, _, rfl, by rw [hlen]; omega, fun i hi => ?_, trivial, rfl, rfl⟩)⟩
  rw [hlen] at hi
  rw [List.getElem?_map, List.getElem?_range hi]
  show (m.dev, (1 : Int) + (i : Int)) = (m.dev, (i : Int) + 1)
  rw [Int.add_comm]
end Go.Eng
namespace Go.Eng
open Go.Proofs Go.RowKit Go.ChangeShapes Go.WideShapes Go.ChangeAt
theorem params_Cg : Tryz.f14.params = #[3, 23] := by kernel_rfl
set_option maxRecDepth 100000 in
theorem lifted_Cg (os : Os) (started : os.Started) (H : Type) (enc : TypeId × Value → H) :
    ReturnsInHanded {} Tryz.checked os 14 .any (fun w args => (Go.Proofs.YtokpcnppihgdlaaGreatDoor.Rows.collectionGapsSpec.pre enc Tryz.prog Tryz.f14 [] false w args ∧ laidMetH Tryz.prog Go.Proofs.YtokpcnppihgdlaaGreatDoor.Rows.collectionGapsRow.laid w) ∧ sizedMet enc Tryz.prog Tryz.f14 (OpenSpec.ofChange Go.Proofs.YtokpcnppihgdlaaGreatDoor.Rows.collectionGapsSpec) false w args)
      (Go.Proofs.YtokpcnppihgdlaaGreatDoor.Rows.collectionGapsSpec.post enc Tryz.prog Tryz.f14 false true false false) := by
  refine handed_and_shaped (C := Tryz.checked) (X := fun w _ => laidMetH Tryz.prog Go.Proofs.YtokpcnppihgdlaaGreatDoor.Rows.collectionGapsRow.laid w) (fun _ _ _ hh h => h.of_heap hh) ownK started (by kernel_rfl) Tryz.func14
    (ChangeSpec.witness_at (enc := enc) (C := Tryz.checked) (os := os) (X := fun w _ => laidMetH Tryz.prog Go.Proofs.YtokpcnppihgdlaaGreatDoor.Rows.collectionGapsRow.laid w) false (laidWorld os) #[.int .i64 0, .slice none 0 0] 8 rfl (by kernel_rfl) (by kernel_rfl) (by kernel_rfl) (by kernel_rfl) (by kernel_rfl) (laid_met os _)) ?_
  intro W base args ds gs before hval0 hW hL hsh
  have hval : ∀ (j : Nat) t v, Tryz.f14.params[j]? = some t → args[j]? = some v → Value.okWide Tryz.prog W .any base t v := hval0
  have hW' := hW
  obtain ⟨p, q, hA0, hV, rfl, hfz, hnd⟩ := hW
  have hA : DataW.TrodAll enc Tryz.prog W 0 (fun _ => true) true Tryz.f14.params.toList args.toList ds p := hA0
  rw [params_Cg] at hA hval
  obtain ⟨v0, vs0, d0, ds0, p0, q0, hargs, rfl, rfl, h0, r0⟩ := trodAll_cons hA
  obtain ⟨v1, vs1, d1, ds1, p1, q1, rfl, rfl, rfl, h1, r1⟩ := trodAll_cons r0
  obtain ⟨rfl, rfl, rfl⟩ := trodAll_nil r1
  obtain rfl : args = #[v0, v1] := by cases args; simp_all
  obtain ⟨rfl, rfl⟩ := trodVars_none hV
  obtain ⟨z0, rfl⟩ := okWide_int undI (hval 0 3 v0 rfl rfl)
  obtain ⟨a1, len1, cap1, rfl⟩ := okWide_slice undIs (hval 1 23 v1 rfl rfl)
  have k0 := h0
  have k1 := h1
  have lt0 : ∀ x ∈ p0, x.block < W.heap.size := by obtain ⟨m, hm⟩ := k0; exact DataW.trod_lt m _ _ _ hm
  have lt1 : ∀ x ∈ p1, x.block < W.heap.size := by obtain ⟨m, hm⟩ := k1; exact DataW.trod_lt m _ _ _ hm
  obtain ⟨m1, hm1⟩ := h1
  obtain ⟨A1, n1, c1, w1, e1, V1⟩ := read_ints hm1
  have e1 : [Value.slice a1 len1 cap1] = [Value.slice A1 n1 c1] := e1
  simp only [List.cons.injEq, and_true] at e1
  rw [← e1] at V1
  have lw := laidW_of hL hsh
  refine (ADet.top (C := cx) (lgp_ok rfl (fun _ h => h) z0 n1 w1) lw (gsz_le lw) (cargs := [.int .i64 z0, .slice a1 len1 cap1]) rfl (fun j x u hx hu => ?_)).mono fun e W' ⟨he, bel⟩ => ?_
  · match j with
    | 0 => obtain rfl := Option.some.inj hx; obtain rfl := Option.some.inj hu; exact .int
    | 1 => obtain rfl := Option.some.inj hx; obtain rfl := Option.some.inj hu; exact V1
    | j + 2 => simp at hx
  · subst he
    exact ⟨_, rfl, _, _, _, [], _, [], hW', trodAll_mk1 (shut_bool (show Tryz.prog.underlying 4 = some .bool by kernel_rfl) _), (trodAll_cons_mk (Below.trod laidOut (by kernel_rfl) (of_decide_eq_true (by kernel_rfl)) k0 bel lt0) (trodAll_cons_mk (Below.trod laidOut (by kernel_rfl) (of_decide_eq_true (by kernel_rfl)) k1 bel lt1) trodAll_mk0)), rfl, bel.frame _, fun h => by cases h⟩
set_option maxRecDepth 100000 in
theorem over_Cg : Go.Proofs.YtokpcnppihgdlaaGreatDoor.Rows.collectionGapsRow.holds Go.Proofs.YtokpcnppihgdlaaGreatDoor.Tryz.pinned (OpenSpec.ofChange Go.Proofs.YtokpcnppihgdlaaGreatDoor.Rows.collectionGapsSpec) :=
  OpenClaim.holds_of_wide 14 Tryz.f14 rfl rfl rfl rfl rfl rfl rfl ⟨rfl, rfl, rfl, rfl, rfl⟩ rfl rfl rfl rfl rfl (by kernel_rfl) Tryz.func14 closed_Cg
    inst_Cg (by unfold Func.isWrapper; rw [if_neg (of_decide_eq_false (by kernel_rfl))]; exact ⟨rfl, rfl⟩)
    (fun os started H enc _ => lifted_Cg os started H enc)
end Go.Eng
namespace Go.Proofs.YtokpcnppihgdlaaGreatDoor
open Go
set_option maxRecDepth 100000 in
theorem wf_Cg : Rows.collectionGapsRow.wfByText (OpenSpec.ofChange Rows.collectionGapsSpec) = true := by kernel_rfl
set_option maxRecDepth 100000 in
theorem goes_Cg : false = Rows.collectionGapsRow.goesBy Tryz.prog := by kernel_rfl
theorem named_Cg : Tryz.prog.funcNamed "priceoffice/priceofficelaw11.CollectionGaps" = some 14 := by kernel_rfl
theorem stand_Cg0 : Tryz.prog.wantsStandIn 3 = false := by kernel_rfl
theorem stand_Cg1 : Tryz.prog.wantsStandIn 23 = false := by kernel_rfl
theorem card_Cg : Rows.CollectionGapsCardSaid :=
  Claim7.holds_tied_plain_at .later [] [.data, .data, .data, .data, .sentinel, .sentinel, .pinned] true harB true
    Go.Eng.over_Cg (fun _ h => by cases h) wf_Cg (fun _ h => by cases h) collectionGaps_row_tie rfl ⟨rfl, rfl⟩ mainB rfl
    (fun f fn hf hfn => by
      obtain rfl : f = 14 := Option.some.inj (named_Cg.symm.trans hf) |>.symm
      obtain rfl : fn = Tryz.f14 := (Option.some.inj (Tryz.func14.symm.trans hfn)).symm
      exact ⟨looksB, fun j t ht => by
        rw [Go.Eng.params_Cg] at ht
        have h3 : t = 3 ∨ t = 23 := by
          rcases j with _ | _ | j
          · exact .inl (by simpa using ht.symm)
          · exact .inr ((by simpa using ht.symm))
          · simp at ht
        rcases h3 with rfl | rfl
        · exact stand_Cg0
        · exact stand_Cg1⟩)
    goes_Cg
end Go.Proofs.YtokpcnppihgdlaaGreatDoor
