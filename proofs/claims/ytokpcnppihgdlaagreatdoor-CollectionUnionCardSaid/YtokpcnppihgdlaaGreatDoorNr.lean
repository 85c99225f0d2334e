/- Lemmas that the tied card of CollectionUnion is proved by. -/
import Derived.Test.YtokpcnppihgdlaaGreatDoorNp
import Derived.Test.YtokpcnppihgdlaaGreatDoorNn
import Derived.Test.YtokpcnppihgdlaaGreatDoorNq
/- Comparing and sorting. -/
namespace Go.Eng
open Go.Proofs Go.RowKit Go.Sort
variable {C : Ctx}
set_option maxRecDepth 20000
theorem nf_nan (x : Int) (R : AV → List (Nat × AObj) → Prop) : wpFn te [] [] 0 Tryz.f90 [.int .i64 x] [] R = (R (.bool !decide (x = x)) []) := by kernel_rfl
theorem nf_icmp (a b : Int) (R : AV → List (Nat × AObj) → Prop) : wpFn te [(90, .det S_nan)] [] 0 Tryz.f56 [.int .i64 a, .int .i64 b] [] R = (True ∧ True ∧ condP (decide (a < b)) (R (.int .i64 (-1 : Int)) []) (condP (decide (b < a)) (R (.int .i64 1) []) (R (.int .i64 0) []))) := by kernel_rfl
theorem nf_nan64 (x : Int) (R : AV → List (Nat × AObj) → Prop) : wpFn te [] [] 0 Tryz.f136 [.int .i64 x] [] R = (R (.bool !decide (x = x)) []) := by kernel_rfl
theorem nf_icmp64 (a b : Int) (R : AV → List (Nat × AObj) → Prop) : wpFn te [(136, .det S_nan)] [] 0 Tryz.f103 [.int .i64 a, .int .i64 b] [] R = (True ∧ True ∧ condP (decide (a < b)) (R (.int .i64 (-1 : Int)) []) (condP (decide (b < a)) (R (.int .i64 1) []) (R (.int .i64 0) []))) := by kernel_rfl
theorem nf_or (f : Nat → List AV) (n : Nat) (R : AV → List (Nat × AObj) → Prop) : wpFn te [] [(3, L_or (vInt f) n)] 0 Tryz.f54 [.own 0 n] [.row 3 1 n f false] R = ((TEq [(3, .int .i64 0), (6, .own 0 n), (7, .int .i64 (↑n : Int)), (8, .int .i64 0)] [(3, .int .i64 0), (6, .own 0 n), (7, .int .i64 (↑n : Int)), (8, .int .i64 (↑0 : Int))] ∧ RowsEq [(0, .row 3 1 n f false)] [(0, .row 3 1 n (intRow (vInt f)) false)]) ∧ n ≤ 100 ∧ condP (decide (orN (vInt f) n = (0 : Int))) ((∀ (i : Nat), i < n → true = true) ∧ ∃ (O' : List (Nat × AObj)), RowsEq [(0, .row 3 1 n (intRow (vInt f)) false)] O' ∧ R (.int .i64 0) O') ((∀ (i : Nat), i < n → true = true) ∧ ∃ (O' : List (Nat × AObj)), RowsEq [(0, .row 3 1 n (intRow (vInt f)) false)] O' ∧ R (.int .i64 (orN (vInt f) n)) O')) := by kernel_rfl
theorem nf_or_round (v : Nat → Int) (n k : Nat) (P : Nat → Prop) (R : Exit → St → Prop) : roundP ⟨te, [], [], 1, 18, 0⟩ (loopB Tryz.f54 3) [3, 6, 7, 8] [3] [2] (S_orl v n) P R (S_orl v n k) = (condP (decide ((↑k : Int) < (↑n : Int))) (((0 : Int) ≤ (↑k : Int) ∧ (↑k : Int) < (↑n : Int)) ∧ (Int.toNat (↑k : Int) < n ∧ 1 = 1) ∧ condP (!decide (v (Int.toNat (↑k : Int)) = (0 : Int))) ((∀ (i : Nat), i < n → true = true) ∧ ∃ (O' : List (Nat × AObj)), RowsEq [(0, .row 3 1 n (intRow v) false)] O' ∧ R .ret (St.mk [(2, .int .i64 (v (Int.toNat (↑k : Int))))] O' 1 [])) (inR .i64 ((↑k : Int) + (1 : Int)) ∧ ∃ (i' : Nat), (TEq [(3, .int .i64 0), (6, .own 0 n), (7, .int .i64 (↑n : Int)), (8, .int .i64 ((↑k : Int) + (1 : Int)))] [(3, .int .i64 0), (6, .own 0 n), (7, .int .i64 (↑n : Int)), (8, .int .i64 (↑i' : Int))] ∧ RowsEq [(0, .row 3 1 n (intRow v) false)] [(0, .row 3 1 n (intRow v) false)]) ∧ P i')) ((∀ (i : Nat), i < n → true = true) ∧ ∃ (O' : List (Nat × AObj)), RowsEq [(0, .row 3 1 n (intRow v) false)] O' ∧ R (.exit 0) (St.mk [(3, .int .i64 0)] O' 1 []))) := by kernel_rfl
theorem compareBytes_eq : ∀ a b : List UInt8, Lib.compareBytes a b = cmpS a b
  | [], [] => rfl
  | [], _ :: _ => rfl
  | _ :: _, [] => rfl
  | a :: x, b :: y => by
    have ih := compareBytes_eq x y
    rw [Lib.compareBytes, ih]
    unfold cmpS
    simp only [Op.bytesLess]
    by_cases h : a < b
    · simp [h]
    · by_cases h' : b < a
      · have : (a == b) = false := by
          rw [beq_eq_false_iff_ne]
          exact fun e => by subst e; exact h h'
        simp [h, h', this]
      · have e : a = b := by
          rcases Nat.lt_trichotomy a.toNat b.toNat with q | q | q
          · exact absurd q h
          · exact UInt8.toNat_inj.1 q
          · exact absurd q h'
        subst e
        simp [h]

theorem scmp_ok (hP : C.P = Tryz.prog) : SpecOK C 55 S_scmp := by
  rintro args objs U Os vc h hvc
  unfold S_scmp at h
  split at h <;> simp only [Option.some.injEq, Prod.mk.injEq, reduceCtorEq] at h
  rename_i a b
  obtain ⟨rfl, rfl, rfl⟩ := h
  refine ACalls.quiet ⟨Tryz.f55, hP ▸ Tryz.func55, rfl, by decide⟩ fun E bs w cargs hW hl hv => ?_
  obtain ⟨x, y, rfl⟩ : ∃ x y, cargs = [x, y] := by
    match cargs, hl with
    | [x, y], _ => exact ⟨x, y, rfl⟩
  have e1 := (hv 0 _ _ rfl rfl).str_iff
  have e2 := (hv 1 _ _ rfl rfl).str_iff
  subst e1; subst e2
  rw [hP]
  refine (Tryz.strings_Compare ⟨a.toArray⟩ ⟨b.toArray⟩ w).mono ?_
  rintro e w' ⟨rfl, rfl⟩
  refine ⟨_, rfl, rfl, ?_⟩
  rw [compareBytes_eq]
  exact .int
theorem nan_ok (hP : C.P = Tryz.prog) : SpecOK C 90 S_nan := by
  rintro args objs U Os vc h hvc
  unfold S_nan at h
  split at h <;> simp only [Option.some.injEq, Prod.mk.injEq, reduceCtorEq] at h
  obtain ⟨rfl, rfl, rfl⟩ := h
  refine SpecOK.wp0 (prg hP) [] 0 .nil (hP ▸ Tryz.func90) rfl rfl rfl ?_
  rw [nf_nan, decide_eq_true rfl]
  exact ⟨rfl, rfl⟩
theorem nan64_ok (hP : C.P = Tryz.prog) : SpecOK C 136 S_nan := by
  rintro args objs U Os vc h hvc
  unfold S_nan at h
  split at h <;> simp only [Option.some.injEq, Prod.mk.injEq, reduceCtorEq] at h
  obtain ⟨rfl, rfl, rfl⟩ := h
  refine SpecOK.wp0 (prg hP) [] 0 .nil (hP ▸ Tryz.func136) rfl rfl rfl ?_
  rw [nf_nan64, decide_eq_true rfl]
  exact ⟨rfl, rfl⟩
theorem icmp_ok (hP : C.P = Tryz.prog) : SpecOK C 56 S_icmp := by
  rintro args objs U Os vc h hvc
  unfold S_icmp at h
  split at h <;> simp only [Option.some.injEq, Prod.mk.injEq, reduceCtorEq] at h
  obtain ⟨rfl, rfl, rfl⟩ := h
  refine SpecOK.wp0 (prg hP) [(90, .det S_nan)] 0 (.cons (nan_ok hP) .nil) (hP ▸ Tryz.func56) rfl rfl rfl ?_
  rw [nf_icmp]
  unfold cmpI
  exact ⟨trivial, trivial, condP_intro (fun h => by rw [h]; exact ⟨rfl, rfl⟩) (fun h => condP_intro (fun k => by rw [h, k]; exact ⟨rfl, rfl⟩) (fun k => by rw [h, k]; exact ⟨rfl, rfl⟩))⟩
theorem icmp64_ok (hP : C.P = Tryz.prog) : SpecOK C 103 S_icmp := by
  rintro args objs U Os vc h hvc
  unfold S_icmp at h
  split at h <;> simp only [Option.some.injEq, Prod.mk.injEq, reduceCtorEq] at h
  obtain ⟨rfl, rfl, rfl⟩ := h
  refine SpecOK.wp0 (prg hP) [(136, .det S_nan)] 0 (.cons (nan64_ok hP) .nil) (hP ▸ Tryz.func103) rfl rfl rfl ?_
  rw [nf_icmp64]
  unfold cmpI
  exact ⟨trivial, trivial, condP_intro (fun h => by rw [h]; exact ⟨rfl, rfl⟩) (fun h => condP_intro (fun k => by rw [h, k]; exact ⟨rfl, rfl⟩) (fun k => by rw [h, k]; exact ⟨rfl, rfl⟩))⟩

theorem orN_stop {v : Nat → Int} {k : Nat} (h : orN v k = 0) (hv : v k ≠ 0) : ∀ n, k < n → orN v n = v k
  | 0, hn => by omega
  | n + 1, hn => by
    rw [orN]
    by_cases e : k = n
    · subst e; rw [h]; rfl
    · rw [orN_stop h hv n (by omega), decide_eq_false hv]; rfl
theorem or_loop (hP : C.P = Tryz.prog) (v : Nat → Int) (n : Nat) : LoopOK C 1 18 (loopC Tryz.f54 3) (L_or v n) := by
  rintro st Q ⟨h0, hn, hQ⟩
  have hR := condP_elim hQ
  refine LoopOK.mk (prg hP) [] 0 .nil [3, 6, 7, 8] [3] [2] (S_orl v n) (fun k => k ≤ n ∧ orN v k = 0) (fun k => n - k) 0 ⟨Nat.zero_le _, rfl⟩ h0 (fun k hk => ?_) (fun i => ⟨fun _ _ => rfl, trivial⟩)
  obtain ⟨hkn, hok⟩ := hk
  rw [nf_or_round, Int.toNat_natCast]
  refine condP_dec (fun h1 => ⟨⟨by omega, by omega⟩, ⟨by omega, rfl⟩, condP_ndec (fun h2 => ⟨fun _ _ => rfl, _, rowsEqR _, ?_⟩) (fun h2 => ⟨by simp only [inR]; omega, k + 1, ⟨rfl, rowsEqR _⟩, ⟨by omega, ?_⟩, by omega⟩)⟩) (fun h1 => ⟨fun _ _ => rfl, _, rowsEqR _, ?_⟩)
  · have e := orN_stop hok h2 n (by omega)
    have := hR.2 (by rw [e, decide_eq_false h2])
    rw [e] at this; exact this
  · rw [orN, hok]; exact h2
  · have : k = n := by omega
    subst this
    exact hR.1 (by rw [hok]; rfl)
theorem or_ok (hP : C.P = Tryz.prog) : SpecOK C 54 S_or := by
  rintro args objs U Os vc h hvc
  unfold S_or at h
  split at h <;> simp only [Option.some.injEq, Prod.mk.injEq, reduceCtorEq] at h
  rename_i n t m f fr
  obtain ⟨rfl, rfl, rfl⟩ := h
  obtain ⟨rfl, rfl, rfl, hn, hf⟩ := hvc
  have hrow : RowsEq [(0, AObj.row 3 1 n (intRow (vInt f)) false)] [(0, .row 3 1 n f false)] := ⟨⟨rfl, rfl, rfl, rfl, rfl, fun i hi => (hf i hi).symm⟩, trivial⟩
  refine SpecOK.wpL (prg hP) [] [(3, L_or (vInt f) n)] 0 .nil (hP ▸ Tryz.func54) rfl rfl rfl [(loopC Tryz.f54 3, L_or (vInt f) n)] (by kernel_rfl) ⟨or_loop hP _ _, trivial⟩ ?_
  rw [nf_or]
  refine ⟨⟨rfl, ⟨rfl, rfl, rfl, rfl, rfl, hf⟩, trivial⟩, hn, condP_dec (fun h => ⟨fun _ _ => rfl, _, hrow, ?_⟩) (fun h => ⟨fun _ _ => rfl, _, hrow, rfl, rfl⟩)⟩
  rw [h]; exact ⟨rfl, rfl⟩

theorem orL_snoc (x : Int) : ∀ l : List Int, orL (l ++ [x]) = bif decide (orL l = 0) then x else orL l
  | [] => by simp only [List.nil_append, orL]; by_cases h : x = 0 <;> simp [h]
  | y :: l => by
    rw [List.cons_append, orL, orL_snoc x l, orL]
    by_cases h : y = 0
    · simp [h]
    · simp [h]
theorem orN_eq (v : Nat → Int) : ∀ n, orN v n = orL ((List.range n).map v)
  | 0 => rfl
  | n + 1 => by rw [List.range_succ, List.map_append, List.map_singleton, orL_snoc, orN, orN_eq v n]

theorem swo_of {α : Type} {c : α → α → Int} (h : PreC c) : SWO (ltOf c) where
  irrefl x := by simp [ltOf, h.self x]
  trans x y z h1 h2 := by
    simp only [ltOf, decide_eq_true_eq] at *
    exact h.lt_trans h1 h2
  ntrans x y z h1 h2 := by
    simp only [ltOf, decide_eq_false_iff_not] at *
    intro q
    have := h.neg x y
    have := h.neg y x
    have := h.neg y z
    have := h.neg z y
    have := h.neg x z
    have := h.neg z x
    have := h.trans z y x (by omega) (by omega)
    omega

end Go.Eng
/- The order of messages: compare, and sorting by it. -/
namespace Go.Eng
open Go.Proofs Go.RowKit Go.Sort
variable {C : Ctx}
set_option maxRecDepth 20000
theorem nf_mcmp1 (a b : List UInt8) (R : AV → List (Nat × AObj) → Prop) : wpFn te [(55, .det S_scmp)] [] 0 Tryz.f102 [.str a, .str b] [] R = (True ∧ R (.int .i64 (cmpS a b)) []) := by kernel_rfl
theorem nf_mcmp (m m' : MG) (R : AV → List (Nat × AObj) → Prop) : wpFn te [(102, .det S_mcmp1), (56, .det S_icmp), (103, .det S_icmp), (54, .det S_or)] [] 0 Tryz.f74 [.agg [.str m.dev, .int .i64 m.seq, .int .i64 m.kind, .str m.v.o, .str m.v.p, .int .i64 m.v.per, .int .i64 m.v.day, .int .i64 m.v.st, .int .i64 m.v.pr, .str m.v.rep, .str m.d.o, .str m.d.p, .int .i64 m.d.per, .str m.d.dev, .int .i64 m.d.num], .agg [.str m'.dev, .int .i64 m'.seq, .int .i64 m'.kind, .str m'.v.o, .str m'.v.p, .int .i64 m'.v.per, .int .i64 m'.v.day, .int .i64 m'.v.st, .int .i64 m'.v.pr, .str m'.v.rep, .str m'.d.o, .str m'.d.p, .int .i64 m'.d.per, .str m'.d.dev, .int .i64 m'.d.num]] [] R = (True ∧ True ∧ True ∧ True ∧ True ∧ True ∧ True ∧ True ∧ True ∧ True ∧ True ∧ True ∧ True ∧ True ∧ True ∧ (15 ≤ 16777216 ∧ 1 = 1 ∧ 15 ≤ 9223372036854775807) ∧ (∀ (i : Nat), i < 15 → true = true) ∧ (3 = 3 ∧ false = false ∧ 15 = 15 ∧ 15 ≤ 100 ∧ ∀ (i : Nat), i < 15 → [AV.int .i64 (List.getD [cmpS (MG.dev m) (MG.dev m'), cmpI (MG.seq m) (MG.seq m'), cmpI (MG.kind m) (MG.kind m'), cmpS (VT.o (MG.v m)) (VT.o (MG.v m')), cmpS (VT.p (MG.v m)) (VT.p (MG.v m')), cmpI (VT.per (MG.v m)) (VT.per (MG.v m')), cmpI (VT.day (MG.v m)) (VT.day (MG.v m')), cmpI (VT.st (MG.v m)) (VT.st (MG.v m')), cmpI (VT.pr (MG.v m)) (VT.pr (MG.v m')), cmpS (VT.rep (MG.v m)) (VT.rep (MG.v m')), cmpS (DT.o (MG.d m)) (DT.o (MG.d m')), cmpS (DT.p (MG.d m)) (DT.p (MG.d m')), cmpI (DT.per (MG.d m)) (DT.per (MG.d m')), cmpS (DT.dev (MG.d m)) (DT.dev (MG.d m')), cmpI (DT.num (MG.d m)) (DT.num (MG.d m'))] i (0 : Int))] = [.int .i64 (vInt (chunkA (TI.sz (TI.mk (TypeDesc.int IntKind.i64) 1 8 (Value.int IntKind.i64 0) false)) (.int .i64 (cmpS (MG.dev m) (MG.dev m')) :: .int .i64 (cmpI (MG.seq m) (MG.seq m')) :: .int .i64 (cmpI (MG.kind m) (MG.kind m')) :: .int .i64 (cmpS (VT.o (MG.v m)) (VT.o (MG.v m'))) :: .int .i64 (cmpS (VT.p (MG.v m)) (VT.p (MG.v m'))) :: .int .i64 (cmpI (VT.per (MG.v m)) (VT.per (MG.v m'))) :: .int .i64 (cmpI (VT.day (MG.v m)) (VT.day (MG.v m'))) :: .int .i64 (cmpI (VT.st (MG.v m)) (VT.st (MG.v m'))) :: .int .i64 (cmpI (VT.pr (MG.v m)) (VT.pr (MG.v m'))) :: .int .i64 (cmpS (VT.rep (MG.v m)) (VT.rep (MG.v m'))) :: .int .i64 (cmpS (DT.o (MG.d m)) (DT.o (MG.d m'))) :: .int .i64 (cmpS (DT.p (MG.d m)) (DT.p (MG.d m'))) :: .int .i64 (cmpI (DT.per (MG.d m)) (DT.per (MG.d m'))) :: .int .i64 (cmpS (DT.dev (MG.d m)) (DT.dev (MG.d m'))) :: .int .i64 (cmpI (DT.num (MG.d m)) (DT.num (MG.d m'))) :: List.append [] (List.flatten (List.replicate (nat_lit 0) [.int .i64 0])))) i)]) ∧ (∀ (i : Nat), i < 15 → true = true) ∧ R (.int .i64 (orN (vInt (chunkA (TI.sz (TI.mk (TypeDesc.int IntKind.i64) 1 8 (Value.int IntKind.i64 0) false)) (.int .i64 (cmpS (MG.dev m) (MG.dev m')) :: .int .i64 (cmpI (MG.seq m) (MG.seq m')) :: .int .i64 (cmpI (MG.kind m) (MG.kind m')) :: .int .i64 (cmpS (VT.o (MG.v m)) (VT.o (MG.v m'))) :: .int .i64 (cmpS (VT.p (MG.v m)) (VT.p (MG.v m'))) :: .int .i64 (cmpI (VT.per (MG.v m)) (VT.per (MG.v m'))) :: .int .i64 (cmpI (VT.day (MG.v m)) (VT.day (MG.v m'))) :: .int .i64 (cmpI (VT.st (MG.v m)) (VT.st (MG.v m'))) :: .int .i64 (cmpI (VT.pr (MG.v m)) (VT.pr (MG.v m'))) :: .int .i64 (cmpS (VT.rep (MG.v m)) (VT.rep (MG.v m'))) :: .int .i64 (cmpS (DT.o (MG.d m)) (DT.o (MG.d m'))) :: .int .i64 (cmpS (DT.p (MG.d m)) (DT.p (MG.d m'))) :: .int .i64 (cmpI (DT.per (MG.d m)) (DT.per (MG.d m'))) :: .int .i64 (cmpS (DT.dev (MG.d m)) (DT.dev (MG.d m'))) :: .int .i64 (cmpI (DT.num (MG.d m)) (DT.num (MG.d m'))) :: List.append [] (List.flatten (List.replicate (nat_lit 0) [.int .i64 0]))))) 15)) []) := by kernel_rfl

theorem lt15 {p : Nat → Prop} (h0 : p 0) (h1 : p 1) (h2 : p 2) (h3 : p 3) (h4 : p 4) (h5 : p 5) (h6 : p 6) (h7 : p 7) (h8 : p 8) (h9 : p 9) (h10 : p 10) (h11 : p 11) (h12 : p 12) (h13 : p 13) (h14 : p 14) : ∀ i, i < 15 → p i := fun i hi => by
  match i, hi with
  | 0, _ => exact h0
  | 1, _ => exact h1
  | 2, _ => exact h2
  | 3, _ => exact h3
  | 4, _ => exact h4
  | 5, _ => exact h5
  | 6, _ => exact h6
  | 7, _ => exact h7
  | 8, _ => exact h8
  | 9, _ => exact h9
  | 10, _ => exact h10
  | 11, _ => exact h11
  | 12, _ => exact h12
  | 13, _ => exact h13
  | 14, _ => exact h14
theorem mcmp1_ok (hP : C.P = Tryz.prog) : SpecOK C 102 S_mcmp1 := by
  rintro args objs U Os vc h hvc
  unfold S_mcmp1 at h
  split at h <;> simp only [Option.some.injEq, Prod.mk.injEq, reduceCtorEq] at h
  rename_i a b
  obtain ⟨rfl, rfl, rfl⟩ := h
  refine SpecOK.wp0 (prg hP) [(55, .det S_scmp)] 0 (.cons (scmp_ok hP) .nil) (hP ▸ Tryz.func102) rfl rfl rfl ?_
  rw [nf_mcmp1]
  exact ⟨trivial, rfl, rfl⟩
theorem mcmp_ok (hP : C.P = Tryz.prog) : SpecOK C 74 S_mcmp := by
  rintro args objs U Os vc h hvc
  unfold S_mcmp at h
  split at h <;> simp only [Option.some.injEq, Prod.mk.injEq, reduceCtorEq] at h
  rename_i dev seq kind o p per day st pr rep o' p' per' dev' num dev2 seq2 kind2 o2 p2 per2 day2 st2 pr2 rep2 o3 p3 per3 dev3 num2
  obtain ⟨rfl, rfl, rfl⟩ := h
  have hn := nf_mcmp ⟨dev, seq, kind, ⟨o, p, per, day, st, pr, rep⟩, ⟨o', p', per', dev', num⟩⟩ ⟨dev2, seq2, kind2, ⟨o2, p2, per2, day2, st2, pr2, rep2⟩, ⟨o3, p3, per3, dev3, num2⟩⟩
  dsimp only at hn
  refine SpecOK.wp0 (prg hP) [(102, .det S_mcmp1), (56, .det S_icmp), (103, .det S_icmp), (54, .det S_or)] 0 (.cons (mcmp1_ok hP) (.cons (icmp_ok hP) (.cons (icmp64_ok hP) (.cons (or_ok hP) .nil)))) (hP ▸ Tryz.func74) rfl rfl rfl ?_
  rw [hn, orN_eq]
  exact ⟨trivial, trivial, trivial, trivial, trivial, trivial, trivial, trivial, trivial, trivial, trivial, trivial, trivial, trivial, trivial, ⟨by omega, rfl, by omega⟩, fun _ _ => rfl, ⟨rfl, rfl, rfl, by omega, lt15 rfl rfl rfl rfl rfl rfl rfl rfl rfl rfl rfl rfl rfl rfl rfl⟩, fun _ _ => rfl, rfl, rfl⟩

theorem sortM_ok (hP : C.P = Tryz.prog) : RSpecOK C 73 R_sortM := by
  rintro args objs R h
  unfold R_sortM at h
  split at h
  · rename_i n t m f fr
    obtain ⟨rfl, rfl, rfl, hn, hf, hR⟩ := h
    generalize mgOf f = g at *
    subst hf
    have hS := ACalls.sortK (C := C) mgC 15 (fun _ => rfl) (fun x u hu => by
        simp only [mgC, List.mem_cons, List.not_mem_nil, or_false] at hu
        rcases hu with rfl | rfl | rfl | rfl | rfl | rfl | rfl | rfl | rfl | rfl | rfl | rfl | rfl | rfl | rfl <;> rfl) ordM (t := 56) (fS := 73) (g := 74)
      ⟨_, hP ▸ Tryz.func73, rfl, by decide⟩
      (fun blk cap d w h1 h2 h3 h4 => by
        rw [hP] at h1 ⊢
        exact AnyQ.slices_SortFunc Tryz.sort73 15 Tryz.isAgg56 Tryz.sizeOf56 _ (fun _ => rfl) (fun x v hv => by
          simp only [encV, mgC, List.map_cons, List.map_nil, List.mem_cons, List.not_mem_nil, or_false] at hv
          rcases hv with rfl | rfl | rfl | rfl | rfl | rfl | rfl | rfl | rfl | rfl | rfl | rfl | rfl | rfl | rfl <;> rfl) ordM (swo_of ordM_preC) 74 #[] blk 0 cap d w (enters_of Tryz.func74 (by kernel_rfl) rfl) h1 h2 h3 h4)
      (fun p cap fv w => by
        rw [hP]
        exact AnyF.slices_SortFunc_none Tryz.sort73 p cap fv w)
      (fun x y => mcmp_ok (C := Ctx.bare C.P C.mixed) hP _ _ _ _ _ rfl trivial) g (n := n) (by omega)
    refine hS.mono ?_
    rintro u O ⟨rfl, f', hp, hs, rfl⟩
    exact hR f' hp hs
  · exact h.elim
end Go.Eng
/- Functions of the library: they compute what the plain functions say. -/
namespace Go.Eng
open Go.Proofs Go.RowKit
set_option maxRecDepth 20000

theorem nf_trimLeftA (s : List UInt8) (cells : List AV) (R : AV → List (Nat × AObj) → Prop) : wpFn te [] [(1, L_trimLeftA s cells 174)] 0 Tryz.f154 [.str s, .ptr 0 0] [.cells cells 174] R = (some (St.mk [(0, .str s), (1, .ptr 0 0)] [(0, .cells (AV.rnL (ren 1 []) cells) 174)] 1 []) = some (St.mk [(0, .str s), (1, .ptr 0 0)] [(0, .cells cells 174)] 1 []) ∧ SetOK cells ∧ R (.str (List.dropWhile (inSet cells) s)) [(0, .cells (AV.rnL (ren 1 []) cells) 174)]) := by kernel_rfl
theorem nf_trimLeftA_nil (cells : List AV) (P : List UInt8 → Prop) (R : Exit → St → Prop) : roundP ⟨te, [(164, .det S_setContains)], [], 1, 16, 0⟩ (loopB Tryz.f154 1) [0, 1] [0] [0] (S_tlState cells 174) P R (S_tlState cells 174 []) = (R (.exit 0) (St.mk [(0, .str [])] [(0, .cells (AV.rnL (ren 1 []) cells) 174)] 1 [])) := by kernel_rfl
theorem nf_trimLeftA_cons (x : UInt8) (s : List UInt8) (cells : List AV) (P : List UInt8 → Prop) (R : Exit → St → Prop) : roundP ⟨te, [(164, .det S_setContains)], [], 1, 16, 0⟩ (loopB Tryz.f154 1) [0, 1] [0] [0] (S_tlState cells 174) P R (S_tlState cells 174 (x :: s)) = (condP (decide ((0 : Int) < (↑(List.length (x :: s)) : Int))) (((0 : Int) ≤ (0 : Int) ∧ (0 : Int) < (↑(List.length (x :: s)) : Int)) ∧ (SetOK (AV.rnL (idxN [0]) cells) ∧ (0 : Int) ≤ (↑(UInt8.toNat (List.getD (x :: s) (Int.toNat (0 : Int)) (0 : UInt8))) : Int) ∧ (↑(UInt8.toNat (List.getD (x :: s) (Int.toNat (0 : Int)) (0 : UInt8))) : Int) < (256 : Int)) ∧ condP (!inSet (AV.rnL (idxN [0]) cells) (UInt8.ofNat (Int.toNat (↑(UInt8.toNat (List.getD (x :: s) (Int.toNat (0 : Int)) (0 : UInt8))) : Int)))) (R (.exit 0) (St.mk [(0, .str (x :: s))] [(0, .cells (AV.rnL (ren 1 []) (AV.rnL (sig [0] 1) (AV.rnL (idxN [0]) cells))) 174)] 1 [])) (((0 : Int) ≤ (1 : Int) ∧ (1 : Int) ≤ (↑(List.length (x :: s)) : Int)) ∧ ∃ (i' : List UInt8), some (St.mk [(0, .str (List.drop (Int.toNat (1 : Int)) (x :: s))), (1, .ptr 0 0)] [(0, .cells (AV.rnL (ren 1 []) (AV.rnL (sig [0] 1) (AV.rnL (idxN [0]) cells))) 174)] 1 []) = some (St.mk [(0, .str i'), (1, .ptr 0 0)] [(0, .cells cells 174)] 1 []) ∧ P i')) (R (.exit 0) (St.mk [(0, .str (x :: s))] [(0, .cells (AV.rnL (ren 1 []) cells) 174)] 1 []))) := by kernel_rfl
theorem nf_trimRightA (s : List UInt8) (cells : List AV) (R : AV → List (Nat × AObj) → Prop) : wpFn te [] [(1, L_trimRightA s cells 174)] 0 Tryz.f155 [.str s, .ptr 0 0] [.cells cells 174] R = (some (St.mk [(0, .str s), (1, .ptr 0 0)] [(0, .cells (AV.rnL (ren 1 []) cells) 174)] 1 []) = some (St.mk [(0, .str s), (1, .ptr 0 0)] [(0, .cells cells 174)] 1 []) ∧ SetOK cells ∧ List.length s ≤ 9223372036854775807 ∧ R (.str (dropR (inSet cells) s)) [(0, .cells (AV.rnL (ren 1 []) cells) 174)]) := by kernel_rfl
theorem nf_trimRightA_round (s : List UInt8) (cells : List AV) (P : List UInt8 → Prop) (R : Exit → St → Prop) : roundP ⟨te, [(164, .det S_setContains)], [], 1, 22, 0⟩ (loopB Tryz.f155 1) [0, 1] [0] [0] (S_tlState cells 174) P R (S_tlState cells 174 s) = (condP (decide ((0 : Int) < (↑(List.length s) : Int))) (inR .i64 ((↑(List.length s) : Int) - (1 : Int)) ∧ ((0 : Int) ≤ (↑(List.length s) : Int) - (1 : Int) ∧ (↑(List.length s) : Int) - (1 : Int) < (↑(List.length s) : Int)) ∧ (SetOK (AV.rnL (idxN [0]) cells) ∧ (0 : Int) ≤ (↑(UInt8.toNat (List.getD s (Int.toNat ((↑(List.length s) : Int) - (1 : Int))) (0 : UInt8))) : Int) ∧ (↑(UInt8.toNat (List.getD s (Int.toNat ((↑(List.length s) : Int) - (1 : Int))) (0 : UInt8))) : Int) < (256 : Int)) ∧ condP (!inSet (AV.rnL (idxN [0]) cells) (UInt8.ofNat (Int.toNat (↑(UInt8.toNat (List.getD s (Int.toNat ((↑(List.length s) : Int) - (1 : Int))) (0 : UInt8))) : Int)))) (R (.exit 0) (St.mk [(0, .str s)] [(0, .cells (AV.rnL (ren 1 []) (AV.rnL (sig [0] 1) (AV.rnL (idxN [0]) cells))) 174)] 1 [])) (inR .i64 ((↑(List.length s) : Int) - (1 : Int)) ∧ ((0 : Int) ≤ (↑(List.length s) : Int) - (1 : Int) ∧ (↑(List.length s) : Int) - (1 : Int) ≤ (↑(List.length s) : Int)) ∧ ∃ (i' : List UInt8), some (St.mk [(0, .str (List.take (Int.toNat ((↑(List.length s) : Int) - (1 : Int))) s)), (1, .ptr 0 0)] [(0, .cells (AV.rnL (ren 1 []) (AV.rnL (sig [0] 1) (AV.rnL (idxN [0]) cells))) 174)] 1 []) = some (St.mk [(0, .str i'), (1, .ptr 0 0)] [(0, .cells cells 174)] 1 []) ∧ P i')) (R (.exit 0) (St.mk [(0, .str s)] [(0, .cells (AV.rnL (ren 1 []) cells) 174)] 1 []))) := by kernel_rfl
theorem nf_trim (s cs : List UInt8) (R : AV → List (Nat × AObj) → Prop) : wpFn te [(154, .det S_trimLeftA), (155, .det S_trimRightA)] [(1005, L_trimSet s cs)] 0 Tryz.f142 [.str s, .str cs] [] R = (condP (decide (s = [])) (R (.str s) []) (condP (decide (cs = [])) (R (.str s) []) (condP (decide ((↑(List.length cs) : Int) = (1 : Int))) (((0 : Int) ≤ (0 : Int) ∧ (0 : Int) < (↑(List.length cs) : Int)) ∧ condP (decide ((↑(UInt8.toNat (List.getD cs (Int.toNat (0 : Int)) (0 : UInt8))) : Int) < (128 : Int))) (((0 : Int) ≤ (0 : Int) ∧ (0 : Int) < (↑(List.length cs) : Int)) ∧ False) (some (St.mk [(0, .str s), (1, .str cs)] [] 0 []) = some (St.mk [(0, .str s), (1, .str cs)] [] 0 []) ∧ List.length cs < 4294967281 ∧ (∀ (b : UInt8), b ∈ cs → UInt8.toNat b < 128) ∧ (SetOK (AV.rnL (idxN [0]) (setAV cs)) ∧ List.length s ≤ 9223372036854775807) ∧ SetOK (AV.rnL (idxN [0]) (AV.rnL (sig [0] 1) (AV.rnL (idxN [0]) (setAV cs)))) ∧ R (.str (List.dropWhile (inSet (AV.rnL (idxN [0]) (AV.rnL (sig [0] 1) (AV.rnL (idxN [0]) (setAV cs))))) (dropR (inSet (AV.rnL (idxN [0]) (setAV cs))) s))) [])) (some (St.mk [(0, .str s), (1, .str cs)] [] 0 []) = some (St.mk [(0, .str s), (1, .str cs)] [] 0 []) ∧ List.length cs < 4294967281 ∧ (∀ (b : UInt8), b ∈ cs → UInt8.toNat b < 128) ∧ (SetOK (AV.rnL (idxN [0]) (setAV cs)) ∧ List.length s ≤ 9223372036854775807) ∧ SetOK (AV.rnL (idxN [0]) (AV.rnL (sig [0] 1) (AV.rnL (idxN [0]) (setAV cs)))) ∧ R (.str (List.dropWhile (inSet (AV.rnL (idxN [0]) (AV.rnL (sig [0] 1) (AV.rnL (idxN [0]) (setAV cs))))) (dropR (inSet (AV.rnL (idxN [0]) (setAV cs))) s))) [])))) := by kernel_rfl


variable {C : Ctx} [C.Loose]

theorem mem2 {α : Type} {l : List α} (h : l.length = 2) : ∃ a b, l = [a, b] := by
  match l, h with
  | [a, b], _ => exact ⟨a, b, rfl⟩
theorem mem1 {α : Type} {l : List α} (h : l.length = 1) : ∃ a, l = [a] := by
  match l, h with
  | [a], _ => exact ⟨a, rfl⟩

theorem setContains_ok (hP : C.P = Tryz.prog) : SpecOK C 164 S_setContains := by
  have _ : C.Loose := inferInstance
  rintro args objs U Os vc h hvc
  unfold S_setContains at h
  split at h <;> simp only [Option.some.injEq, Prod.mk.injEq, reduceCtorEq] at h
  rename_i x cells t
  obtain ⟨rfl, rfl, rfl⟩ := h
  obtain ⟨hc, h0, h1⟩ := hvc
  obtain ⟨n, rfl⟩ : ∃ n : UInt8, x = n.toNat := ⟨UInt8.ofNat x.toNat, by simp; omega⟩
  refine ACalls.quiet ⟨Tryz.f164, hP ▸ Tryz.func164, rfl, by decide⟩ fun E bs w cargs hW hl hv => ?_
  obtain ⟨a, b, rfl⟩ := mem2 hl
  have e2 := (hv 1 _ _ rfl rfl).int_iff
  subst e2
  obtain ⟨b, y, rfl, hcc, hy⟩ := hW.cell (r := 0) rfl (hv 0 _ _ rfl rfl) (hc.at_ n)
  cases hy
  rw [hP]
  refine (Tryz.asciiSet_contains b n _ w hcc).mono ?_
  rintro e w' ⟨rfl, rfl⟩
  refine ⟨_, rfl, rfl, ?_⟩
  have : UInt8.ofNat (n.toNat : Int).toNat = n := by simp
  rw [this]
  exact .bool

theorem trimLeftA_loop (hP : C.P = Tryz.prog) (s : List UInt8) (cells : List AV) : LoopOK C 1 16 (loopC Tryz.f154 1) (L_trimLeftA s cells 174) := by
  rintro st Q ⟨h0, hc, hQ⟩
  refine LoopOK.mk (prg hP) [(164, .det S_setContains)] 0 (.cons (setContains_ok hP) .nil) [0, 1] [0] [0] (S_tlState cells 174) (fun s' => s'.dropWhile (inSet cells) = s.dropWhile (inSet cells)) List.length s rfl h0 fun s' hs' => ?_
  have hrn := hc.rn
  cases s' with
  | nil =>
    rw [nf_trimLeftA_nil]
    simp only [hrn]
    rw [← hs'] at hQ
    exact hQ
  | cons x r =>
    rw [nf_trimLeftA_cons]
    simp only [hrn]
    have ex : UInt8.ofNat (Int.toNat (↑(UInt8.toNat (List.getD (x :: r) (Int.toNat 0) 0)))) = x := by simp
    have hx : (List.getD (x :: r) (Int.toNat 0) 0) = x := rfl
    have hlt : x.toNat < 256 := x.toNat_lt
    have hlen : (((x :: r).length : Nat) : Int) = (r.length : Int) + 1 := by simp
    rw [hx] at ex
    simp only [hx, ex, hlen]
    refine condP_intro (fun _ => ⟨by omega, ⟨hc, by omega, by omega⟩, condP_intro (fun h => ?_) (fun h => ?_)⟩) (fun h => ?_)
    · have h : inSet cells x = false := by simpa using h
      rw [← hs', List.dropWhile_cons, h] at hQ
      exact hQ
    · have h : inSet cells x = true := by simpa using h
      refine ⟨by omega, r, rfl, ?_, by simp⟩
      rw [← hs', List.dropWhile_cons, h]; rfl
    · have := of_decide_eq_false h; omega

theorem trimLeftA_ok (hP : C.P = Tryz.prog) : SpecOK C 154 S_trimLeftA := by
  rintro args objs U Os vc h hvc
  unfold S_trimLeftA at h
  split at h <;> simp only [Option.some.injEq, Prod.mk.injEq, reduceCtorEq] at h
  rename_i s cells
  obtain ⟨rfl, rfl, rfl⟩ := h
  refine SpecOK.wpL (prg hP) [] [(1, L_trimLeftA s cells 174)] 0 .nil (hP ▸ Tryz.func154) rfl rfl rfl [(loopC Tryz.f154 1, L_trimLeftA s cells 174)] (by kernel_rfl) ⟨trimLeftA_loop hP s cells, trivial⟩ ?_
  rw [nf_trimLeftA]
  simp only [hvc.rn]
  exact ⟨trivial, hvc, by simp⟩

theorem trimRightA_loop (hP : C.P = Tryz.prog) (s : List UInt8) (cells : List AV) : LoopOK C 1 22 (loopC Tryz.f155 1) (L_trimRightA s cells 174) := by
  rintro st Q ⟨h0, hc, hm, hQ⟩
  refine LoopOK.mk (prg hP) [(164, .det S_setContains)] 0 (.cons (setContains_ok hP) .nil) [0, 1] [0] [0] (S_tlState cells 174) (fun s' => dropR (inSet cells) s' = dropR (inSet cells) s ∧ s'.length ≤ maxLen) List.length s ⟨rfl, hm⟩ h0 fun s' hs' => ?_
  have hrn := hc.rn
  obtain ⟨hs', hm'⟩ := hs'
  have hm2 : s'.length ≤ 9223372036854775807 := hm'
  rw [nf_trimRightA_round]
  simp only [hrn]
  rcases snoc_cases s' with rfl | ⟨r, x, rfl⟩
  · refine condP_intro (fun h => ?_) (fun _ => ?_)
    · have := of_decide_eq_true h; simp at this
    · rw [← hs'] at hQ; exact hQ
  · have hlen : (((r ++ [x]).length : Nat) : Int) = (r.length : Int) + 1 := by simp
    have e1 : ((r.length : Int) + 1 - 1).toNat = r.length := by omega
    have hx : (r ++ [x]).getD r.length 0 = x := by simp
    have ht : (r ++ [x]).take r.length = r := by simp
    have ex : UInt8.ofNat ((x.toNat : Int)).toNat = x := by simp
    have hlt : x.toNat < 256 := x.toNat_lt
    have hlr : (r ++ [x]).length = r.length + 1 := by simp
    simp only [hlen, e1, hx, ht, ex, inR]
    refine condP_intro (fun _ => ⟨by omega, by omega, ⟨hc, by omega, by omega⟩, condP_intro (fun h => ?_) (fun h => ?_)⟩) (fun h => ?_)
    · have h : inSet cells x = false := by simpa using h
      rw [← hs', dropR_snoc, h] at hQ
      exact hQ
    · have h : inSet cells x = true := by simpa using h
      refine ⟨by omega, by omega, r, rfl, ⟨?_, ?_⟩, by omega⟩
      · rw [← hs', dropR_snoc, h]; rfl
      · show r.length ≤ 9223372036854775807
        omega
    · have := of_decide_eq_false h; omega

theorem trimRightA_ok (hP : C.P = Tryz.prog) : SpecOK C 155 S_trimRightA := by
  rintro args objs U Os vc h hvc
  unfold S_trimRightA at h
  split at h <;> simp only [Option.some.injEq, Prod.mk.injEq, reduceCtorEq] at h
  rename_i s cells
  obtain ⟨rfl, rfl, rfl⟩ := h
  refine SpecOK.wpL (prg hP) [] [(1, L_trimRightA s cells 174)] 0 .nil (hP ▸ Tryz.func155) rfl rfl rfl [(loopC Tryz.f155 1, L_trimRightA s cells 174)] (by kernel_rfl) ⟨trimRightA_loop hP s cells, trivial⟩ ?_
  rw [nf_trimRightA]
  simp only [hvc.1.rn]
  exact ⟨trivial, hvc.1, hvc.2, by simp⟩


theorem setCells_V {w : World} {M : Nat → Prop} {bs : Nat → Option Hd} (l : List UInt8) : CellsV w M bs (Lib.setCells l) (setAV l) := by
  have hs : (Lib.setCells l).size = 256 := Lib.setCells_size l
  have hl : (setAV l).length = 256 := (setAV_ok l).1
  have at_ : ∀ j, j < 256 → (Lib.setCells l)[j]? = some (.bool (l.contains (UInt8.ofNat j))) := by
    intro j hj
    have := Lib.setCells_at l (UInt8.ofNat j)
    have e : (UInt8.ofNat j).toNat = j := by simp; omega
    rwa [e] at this
  refine ⟨by rw [hs, hl], fun j v hv => ?_, fun j v u hv hu => ?_⟩
  · have hj : j < 256 := by rw [← hs]; exact (Array.getElem?_eq_some_iff.1 hv).1
    rw [at_ j hj] at hv
    cases hv; rfl
  · have hj : j < 256 := by rw [← hs]; exact (Array.getElem?_eq_some_iff.1 hv).1
    rw [at_ j hj] at hv
    cases hv
    have : (setAV l)[j]? = some (.bool (l.contains (UInt8.ofNat j))) := by unfold setAV; simp [hj]
    rw [this] at hu
    cases hu
    exact .bool

theorem makeSet_ok (hP : C.P = Tryz.prog) : SpecOK C 153 S_makeSet := by
  rintro args objs U Os vc h hvc
  unfold S_makeSet at h
  split at h <;> simp only [Option.some.injEq, Prod.mk.injEq, reduceCtorEq] at h
  rename_i l
  obtain ⟨rfl, rfl, rfl⟩ := h
  obtain ⟨hl, hascii⟩ := hvc
  refine ACalls.below ⟨Tryz.f153, hP ▸ Tryz.func153, rfl, by decide⟩ fun w M cargs _ _ hM hlen hv => ?_
  obtain ⟨a, rfl⟩ := mem1 hlen
  have e1 := (hv 0 _ _ rfl rfl).str_iff
  subst e1
  rw [hP]
  refine (Tryz.strings_makeASCIISet (fun w => Tryz.zeroValue174 w) ⟨l.toArray⟩ w (by simpa [ByteArray.size] using hl) (fun j b hb => hascii b (by simpa using List.mem_of_getElem? hb))).mono ?_
  rintro e w' ⟨rfl, rfl⟩
  have hc := setCells_V (w := w.alloc (.cells (Lib.setCells l) 174)) (M := M) (bs := nob) l
  refine ⟨_, rfl, (Below.refl _ _).alloc (Nat.le_refl _) _, .tuple rfl fun j v u hv hu => ?_⟩
  match j with
  | 0 => simp at hv hu; subst hv; subst hu; exact .agg hc.1 hc.2.1 hc.2.2
  | 1 => simp at hv hu; subst hv; subst hu; exact .bool
  | j + 2 => simp at hv

def teSet : TE := [(174, { desc := .array 256 4, sz := 256, bytes := 256, zero := .agg (Array.replicate 256 (.bool false)) })]

@[irreducible] def zeroSet : List AV := List.replicate 256 (.bool false)

theorem avcs_bool (n : Nat) : avcs (List.replicate n (.bool false)) = some (List.replicate n (.bool false)) := by
  induction n with
  | zero => rfl
  | succ n ih => simp [List.replicate_succ, avcs, avc, ih]

theorem teSet_ok : TE.ok Tryz.prog teSet := by
  refine TE.ok_cons Tryz.underlying174 ⟨Tryz.t174, Tryz.type174, rfl, rfl, by kernel_rfl⟩ (fun h => by cases h) TE.ok_nil

theorem zeroSet_of : avcs (Value.agg (Array.replicate 256 (.bool false))).cells.toList = some zeroSet := by
  have e : (Value.agg (Array.replicate 256 (.bool false))).cells.toList = List.replicate 256 (Value.bool false) := Array.toList_replicate
  rw [e]
  unfold zeroSet
  exact avcs_bool 256

theorem zeroSet_len (cs : List UInt8) : zeroSet.length = (setAV cs).length := by
  rw [(setAV_ok cs).1]
  unfold zeroSet
  rw [List.length_replicate]

theorem trimSet_ok (hP : C.P = Tryz.prog) (s cs : List UInt8) : LoopOK C 0 43 (regC Tryz.f142 5) (L_trimSet s cs) := by
  rintro st Q ⟨h0, hl, hascii, hQ⟩
  refine AWP.canonIs [0, 1] h0 ?_ trivial
  have hte := (prg hP).ok
  have hts : TE.ok C.P teSet := hP ▸ teSet_ok
  have hrn := (setAV_ok cs).rn
  refine AWP.canQ (te := te) (Fe := [0, 5, 6]) (Fr := []) ?_
  show AWP C 0 43 (.region 5 (List.toArray _) false) _ _
  refine AWP.region ?_
  refine AOps.pure hte (prg hP).one rfl rfl rfl trivial ?_
  refine AOps.callD (u2 := .nil) (cobjs := []) (U := .tuple [.agg (setAV cs), .bool true]) (Os := []) (T2 := [(31, .tuple [.agg (setAV cs), .bool true]), (30, .str cs), (0, .str s), (1, .str cs)]) [] rfl rfl rfl rfl rfl rfl trivial (makeSet_ok hP [.str cs] [] _ _ _ rfl ⟨hl, hascii⟩) rfl ?_ rfl rfl ?_
  · show (31, AV.tuple [.agg (AV.rnL _ (setAV cs)), .bool true]) :: _ = _
    rw [hrn]; rfl
  refine AOps.pure hte (prg hP).one rfl rfl rfl trivial ?_
  refine AOps.pure hte (prg hP).one rfl rfl rfl trivial ?_
  refine AOps.pure hte (prg hP).one rfl rfl rfl trivial ?_
  refine AOps.step (l := [(_, .cells zeroSet 174)]) rfl (OpStep.allocW hts (t := 174) rfl rfl rfl zeroSet_of) rfl rfl rfl rfl ?_
  refine AOps.step rfl (OpStep.storeW hts (t := 174) (new := setAV cs) rfl rfl rfl rfl rfl rfl (zeroSet_len cs) (setAV_ok cs).1) rfl rfl rfl rfl ?_
  refine AOps.pure hte (prg hP).one rfl rfl rfl trivial ?_
  refine AOps.nil ?_
  refine canQ_of (s' := ⟨[(0, .str s), (5, .ptr 0 0), (6, .bool true)], [(0, .cells (AV.rnL (ren 0 [(16, 0)]) (setAV cs)) 174)], 1, []⟩) (by simp) ?_ ?_
  · rfl
  · rw [hrn]; exact hQ

theorem trim_ok (hP : C.P = Tryz.prog) : SpecOK C 142 S_trim := by
  rintro args objs U Os vc h hvc
  unfold S_trim at h
  split at h <;> simp only [Option.some.injEq, Prod.mk.injEq, reduceCtorEq] at h
  rename_i s cs
  obtain ⟨rfl, rfl, rfl⟩ := h
  obtain ⟨hs, h2, hl, hascii⟩ := hvc
  refine SpecOK.wpL (prg hP) [(154, .det S_trimLeftA), (155, .det S_trimRightA)] [(1005, L_trimSet s cs)] 0 (.cons (trimLeftA_ok hP) (.cons (trimRightA_ok hP) .nil)) (hP ▸ Tryz.func142) rfl rfl rfl
    [(regC Tryz.f142 5, L_trimSet s cs)] (by kernel_rfl) ⟨trimSet_ok hP s cs, trivial⟩ ?_
  rw [nf_trim]
  have hrn := (setAV_ok cs).rn
  have hc1 : ∀ h : (cs.length : Int) = 1, False := by intro h; omega
  have hin : inSet (setAV cs) = (cs.contains ·) := funext (inSet_setAV cs)
  simp only [hrn, hin]
  refine condP_intro (fun h => ?_) (fun _ => condP_intro (fun h => ?_) (fun _ => condP_intro (fun h => ?_) (fun _ => ?_)))
  · have h := of_decide_eq_true h
    subst h
    simp [trimF, dropR]
  · have h := of_decide_eq_true h
    subst h
    simp at h2
  · exact (hc1 (of_decide_eq_true h)).elim
  · exact ⟨trivial, hl, hascii, ⟨setAV_ok cs, hs⟩, setAV_ok cs, rfl, trivial⟩

end Go.Eng
/- Codes of classifications. -/
namespace Go.Eng
open Go.Proofs Go.RowKit
set_option maxRecDepth 20000
theorem nf_min (n : Nat) (v : Nat → Int) (R : AV → List (Nat × AObj) → Prop) : wpFn te [] [(5, L_mm n v (minV v)), (1002, fun _ _ => False)] 0 Tryz.f170 [.own 0 n] [.row 3 1 n (fun i => [.int .i64 (v i)]) false] R = (condP (decide ((↑n : Int) < (1 : Int))) False (((0 : Int) ≤ (0 : Int) ∧ (0 : Int) < (↑n : Int)) ∧ (0 < n ∧ 1 = 1) ∧ (TEq [(0, .own 0 n), (3, .int .i64 (v 0)), (4, .int .i64 1)] [(0, .own 0 n), (3, .int .i64 (minV v 0)), (4, .int .i64 ((↑0 : Int) + (1 : Int)))] ∧ RowsEq [(0, .row 3 1 n (fun (i : Nat) => [.int .i64 (v i)]) false)] [(0, .row 3 1 n (fun (i : Nat) => [.int .i64 (v i)]) false)]) ∧ 1 ≤ n ∧ n ≤ 4611686018427387904 ∧ (∀ (i : Nat), i < n → true = true) ∧ ∃ (O' : List (Nat × AObj)), RowsEq [(0, .row 3 1 n (fun (i : Nat) => [.int .i64 (v i)]) false)] O' ∧ R (.int .i64 (minV v (n - 1))) O')) := by kernel_rfl
theorem nf_min_round (n : Nat) (v : Nat → Int) (k : Nat) (P : Nat → Prop) (R : Exit → St → Prop) : roundP ⟨te, [], [], 1, 25, 0⟩ (loopB Tryz.f170 5) [0, 3, 4] [3] [] (S_mmState n v (minV v)) P R (S_mmState n v (minV v) k) = (condP (decide ((↑k : Int) + (1 : Int) < (↑n : Int))) (((0 : Int) ≤ (↑k : Int) + (1 : Int) ∧ (↑k : Int) + (1 : Int) < (↑n : Int)) ∧ (Int.toNat ((↑k : Int) + (1 : Int)) < n ∧ 1 = 1) ∧ inR .i64 ((↑k : Int) + (1 : Int) + (1 : Int)) ∧ ∃ (i' : Nat), (TEq [(0, .own 0 n), (3, .int .i64 (min (minV v k) (v (Int.toNat ((↑k : Int) + (1 : Int)))))), (4, .int .i64 ((↑k : Int) + (1 : Int) + (1 : Int)))] [(0, .own 0 n), (3, .int .i64 (minV v i')), (4, .int .i64 ((↑i' : Int) + (1 : Int)))] ∧ RowsEq [(0, .row 3 1 n (fun (i : Nat) => [.int .i64 (v i)]) false)] [(0, .row 3 1 n (fun (i : Nat) => [.int .i64 (v i)]) false)]) ∧ P i') ((∀ (i : Nat), i < n → true = true) ∧ ∃ (O' : List (Nat × AObj)), RowsEq [(0, .row 3 1 n (fun (i : Nat) => [.int .i64 (v i)]) false)] O' ∧ R (.exit 0) (St.mk [(3, .int .i64 (minV v k))] O' 1 []))) := by kernel_rfl
theorem nf_max (n : Nat) (v : Nat → Int) (R : AV → List (Nat × AObj) → Prop) : wpFn te [] [(5, L_mm n v (maxV v)), (1002, fun _ _ => False)] 0 Tryz.f171 [.own 0 n] [.row 3 1 n (fun i => [.int .i64 (v i)]) false] R = (condP (decide ((↑n : Int) < (1 : Int))) False (((0 : Int) ≤ (0 : Int) ∧ (0 : Int) < (↑n : Int)) ∧ (0 < n ∧ 1 = 1) ∧ (TEq [(0, .own 0 n), (3, .int .i64 (v 0)), (4, .int .i64 1)] [(0, .own 0 n), (3, .int .i64 (maxV v 0)), (4, .int .i64 ((↑0 : Int) + (1 : Int)))] ∧ RowsEq [(0, .row 3 1 n (fun (i : Nat) => [.int .i64 (v i)]) false)] [(0, .row 3 1 n (fun (i : Nat) => [.int .i64 (v i)]) false)]) ∧ 1 ≤ n ∧ n ≤ 4611686018427387904 ∧ (∀ (i : Nat), i < n → true = true) ∧ ∃ (O' : List (Nat × AObj)), RowsEq [(0, .row 3 1 n (fun (i : Nat) => [.int .i64 (v i)]) false)] O' ∧ R (.int .i64 (maxV v (n - 1))) O')) := by kernel_rfl
theorem nf_max_round (n : Nat) (v : Nat → Int) (k : Nat) (P : Nat → Prop) (R : Exit → St → Prop) : roundP ⟨te, [], [], 1, 25, 0⟩ (loopB Tryz.f171 5) [0, 3, 4] [3] [] (S_mmState n v (maxV v)) P R (S_mmState n v (maxV v) k) = (condP (decide ((↑k : Int) + (1 : Int) < (↑n : Int))) (((0 : Int) ≤ (↑k : Int) + (1 : Int) ∧ (↑k : Int) + (1 : Int) < (↑n : Int)) ∧ (Int.toNat ((↑k : Int) + (1 : Int)) < n ∧ 1 = 1) ∧ inR .i64 ((↑k : Int) + (1 : Int) + (1 : Int)) ∧ ∃ (i' : Nat), (TEq [(0, .own 0 n), (3, .int .i64 (max (maxV v k) (v (Int.toNat ((↑k : Int) + (1 : Int)))))), (4, .int .i64 ((↑k : Int) + (1 : Int) + (1 : Int)))] [(0, .own 0 n), (3, .int .i64 (maxV v i')), (4, .int .i64 ((↑i' : Int) + (1 : Int)))] ∧ RowsEq [(0, .row 3 1 n (fun (i : Nat) => [.int .i64 (v i)]) false)] [(0, .row 3 1 n (fun (i : Nat) => [.int .i64 (v i)]) false)]) ∧ P i') ((∀ (i : Nat), i < n → true = true) ∧ ∃ (O' : List (Nat × AObj)), RowsEq [(0, .row 3 1 n (fun (i : Nat) => [.int .i64 (v i)]) false)] O' ∧ R (.exit 0) (St.mk [(3, .int .i64 (maxV v k))] O' 1 []))) := by kernel_rfl
theorem nf_format (n : Nat) (v : Nat → Int) (R : AV → List (Nat × AObj) → Prop) : wpFn te [(170, .det S_min), (171, .det S_max), (172, .det S_itoa)] [(7, L_fmt n v)] 0 Tryz.f160 [.own 0 n] [.row 3 1 n (fun i => [.int .i64 (v i)]) false] R = (condP (decide ((↑n : Int) < (1 : Int))) ((∀ (i : Nat), i < n → true = true) ∧ ∃ (O' : List (Nat × AObj)), RowsEq [(0, .row 3 1 n (fun (i : Nat) => [.int .i64 (v i)]) false)] O' ∧ R (.tuple [.str [], .int .i64 64]) O') (condP (decide ((5 : Int) < (↑n : Int))) ((∀ (i : Nat), i < n → true = true) ∧ ∃ (O' : List (Nat × AObj)), RowsEq [(0, .row 3 1 n (fun (i : Nat) => [.int .i64 (v i)]) false)] O' ∧ R (.tuple [.str [], .int .i64 64]) O') ((∀ (i : Nat), i < n → true = true) ∧ (3 = 3 ∧ false = false ∧ 1 ≤ n ∧ n = n ∧ n ≤ 4611686018427387904 ∧ (fun (i : Nat) => [.int .i64 (v i)]) = intRow (vInt fun (i : Nat) => [.int .i64 (v i)])) ∧ (∀ (i : Nat), i < n → true = true) ∧ condP (decide (minV (vInt fun (i : Nat) => [.int .i64 (v i)]) (n - 1) < (1 : Int))) ((∀ (i : Nat), i < n → true = true) ∧ ∃ (O' : List (Nat × AObj)), RowsEq [(0, .row 3 1 n (fun (i : Nat) => [.int .i64 (v i)]) false)] O' ∧ R (.tuple [.str [], .int .i64 64]) O') ((∀ (i : Nat), i < n → true = true) ∧ (3 = 3 ∧ false = false ∧ 1 ≤ n ∧ n = n ∧ n ≤ 4611686018427387904 ∧ (fun (i : Nat) => [.int .i64 (v i)]) = intRow (vInt fun (i : Nat) => [.int .i64 (v i)])) ∧ (∀ (i : Nat), i < n → true = true) ∧ condP (decide ((99 : Int) < maxV (vInt fun (i : Nat) => [.int .i64 (v i)]) (n - 1))) ((∀ (i : Nat), i < n → true = true) ∧ ∃ (O' : List (Nat × AObj)), RowsEq [(0, .row 3 1 n (fun (i : Nat) => [.int .i64 (v i)]) false)] O' ∧ R (.tuple [.str [], .int .i64 64]) O') (((0 : Int) ≤ (0 : Int) ∧ (0 : Int) < (↑n : Int)) ∧ (0 < n ∧ 1 = 1) ∧ ((0 : Int) ≤ v 0 ∧ v 0 < (100 : Int)) ∧ ((0 : Int) ≤ (0 : Int) ∧ (0 : Int) < (↑n : Int)) ∧ (0 < n ∧ 1 = 1) ∧ condP (decide (v 0 < (10 : Int))) (List.length ([(48 : UInt8)]) + List.length (decF (v 0)) ≤ 9223372036854775807 ∧ ((0 : Int) ≤ (1 : Int) ∧ (1 : Int) ≤ (↑n : Int)) ∧ (TEq [(4, .str ([(48 : UInt8)] ++ decF (v 0))), (36, .sub 0 1 1 (n - Int.toNat (1 : Int))), (37, .int .i64 (↑(n - Int.toNat (1 : Int)) : Int)), (38, .int .i64 0)] [(4, .str (fmtHead (v 0) ++ fmtRest v 0)), (36, .sub 0 1 1 (n - 1)), (37, .int .i64 (↑(n - 1) : Int)), (38, .int .i64 (↑0 : Int))] ∧ RowsEq [(0, .row 3 1 n (fun (i : Nat) => [.int .i64 (v i)]) false)] [(0, .row 3 1 n (fun (i : Nat) => [.int .i64 (v i)]) false)]) ∧ fmtOK n v = true ∧ (∀ (i : Nat), i < n → true = true) ∧ ∃ (O' : List (Nat × AObj)), RowsEq [(0, .row 3 1 n (fun (i : Nat) => [.int .i64 (v i)]) false)] O' ∧ R (.tuple [.str (fmtZ n v), .int .i64 0]) O') (((0 : Int) ≤ (1 : Int) ∧ (1 : Int) ≤ (↑n : Int)) ∧ (TEq [(4, .str (decF (v 0))), (36, .sub 0 1 1 (n - Int.toNat (1 : Int))), (37, .int .i64 (↑(n - Int.toNat (1 : Int)) : Int)), (38, .int .i64 0)] [(4, .str (fmtHead (v 0) ++ fmtRest v 0)), (36, .sub 0 1 1 (n - 1)), (37, .int .i64 (↑(n - 1) : Int)), (38, .int .i64 (↑0 : Int))] ∧ RowsEq [(0, .row 3 1 n (fun (i : Nat) => [.int .i64 (v i)]) false)] [(0, .row 3 1 n (fun (i : Nat) => [.int .i64 (v i)]) false)]) ∧ fmtOK n v = true ∧ (∀ (i : Nat), i < n → true = true) ∧ ∃ (O' : List (Nat × AObj)), RowsEq [(0, .row 3 1 n (fun (i : Nat) => [.int .i64 (v i)]) false)] O' ∧ R (.tuple [.str (fmtZ n v), .int .i64 0]) O')))))) := by kernel_rfl
theorem nf_format_round (n : Nat) (v : Nat → Int) (k : Nat) (P : Nat → Prop) (R : Exit → St → Prop) : roundP ⟨te, [(172, .det S_itoa)], [], 1, 49, 0⟩ (loopB Tryz.f160 7) [4, 36, 37, 38] [4] [] (S_fmtState n v) P R (S_fmtState n v k) = (condP (decide ((↑k : Int) < (↑(n - 1) : Int))) (((0 : Int) ≤ (↑k : Int) ∧ (↑k : Int) < (↑(n - 1) : Int) ∧ 1 = 1) ∧ (1 + Int.toNat (↑k : Int) < n ∧ 1 = 1) ∧ ((0 : Int) ≤ v (1 + Int.toNat (↑k : Int)) ∧ v (1 + Int.toNat (↑k : Int)) < (100 : Int)) ∧ List.length ([(46 : UInt8)]) + List.length (decF (v (1 + Int.toNat (↑k : Int)))) ≤ 9223372036854775807 ∧ List.length (fmtHead (v 0) ++ fmtRest v k) + List.length ([(46 : UInt8)] ++ decF (v (1 + Int.toNat (↑k : Int)))) ≤ 9223372036854775807 ∧ inR .i64 ((↑k : Int) + (1 : Int)) ∧ ∃ (i' : Nat), (TEq [(4, .str (fmtHead (v 0) ++ fmtRest v k ++ ([(46 : UInt8)] ++ decF (v (1 + Int.toNat (↑k : Int)))))), (36, .sub 0 1 1 (n - 1)), (37, .int .i64 (↑(n - 1) : Int)), (38, .int .i64 ((↑k : Int) + (1 : Int)))] [(4, .str (fmtHead (v 0) ++ fmtRest v i')), (36, .sub 0 1 1 (n - 1)), (37, .int .i64 (↑(n - 1) : Int)), (38, .int .i64 (↑i' : Int))] ∧ RowsEq [(0, .row 3 1 n (fun (i : Nat) => [.int .i64 (v i)]) false)] [(0, .row 3 1 n (fun (i : Nat) => [.int .i64 (v i)]) false)]) ∧ P i') ((∀ (i : Nat), i < n → true = true) ∧ ∃ (O' : List (Nat × AObj)), RowsEq [(0, .row 3 1 n (fun (i : Nat) => [.int .i64 (v i)]) false)] O' ∧ R (.exit 0) (St.mk [(4, .str (fmtHead (v 0) ++ fmtRest v k))] O' 1 []))) := by kernel_rfl

variable {C : Ctx} [C.Loose]

theorem min_loop (hP : C.P = Tryz.prog) (n : Nat) (v : Nat → Int) : LoopOK C 1 25 (loopC Tryz.f170 5) (L_mm n v (minV v)) := by
  have _ : C.Loose := inferInstance
  rintro st Q ⟨h0, hn, hn2, hQ⟩
  refine LoopOK.mk (prg hP) [] 0 .nil [0, 3, 4] [3] [] (S_mmState n v (minV v)) (fun k => k + 1 ≤ n) (fun k => n - k) 0 hn h0 (fun k hk => ?_) (fun i => ⟨fun _ _ => rfl, trivial⟩)
  rw [nf_min_round]
  refine condP_dec (fun h => ?_) (fun h => ⟨fun _ _ => rfl, _, rowsEq1, ?_⟩)
  · have e : ((k : Int) + 1).toNat = k + 1 := by omega
    simp only [inR, e, and_true]
    exact ⟨by omega, by omega, by omega, k + 1, ⟨rfl, rowsEq1⟩, by omega, by omega⟩
  · have : k = n - 1 := by omega
    rw [this]; exact hQ

theorem max_loop (hP : C.P = Tryz.prog) (n : Nat) (v : Nat → Int) : LoopOK C 1 25 (loopC Tryz.f171 5) (L_mm n v (maxV v)) := by
  have _ : C.Loose := inferInstance
  rintro st Q ⟨h0, hn, hn2, hQ⟩
  refine LoopOK.mk (prg hP) [] 0 .nil [0, 3, 4] [3] [] (S_mmState n v (maxV v)) (fun k => k + 1 ≤ n) (fun k => n - k) 0 hn h0 (fun k hk => ?_) (fun i => ⟨fun _ _ => rfl, trivial⟩)
  rw [nf_max_round]
  refine condP_dec (fun h => ?_) (fun h => ⟨fun _ _ => rfl, _, rowsEq1, ?_⟩)
  · have e : ((k : Int) + 1).toNat = k + 1 := by omega
    simp only [inR, e, and_true]
    exact ⟨by omega, by omega, by omega, k + 1, ⟨rfl, rowsEq1⟩, by omega, by omega⟩
  · have : k = n - 1 := by omega
    rw [this]; exact hQ

theorem min_ok (hP : C.P = Tryz.prog) : SpecOK C 170 S_min := by
  rintro args objs U Os vc h hvc
  unfold S_min at h
  split at h <;> simp only [Option.some.injEq, Prod.mk.injEq, reduceCtorEq] at h
  rename_i n t m f fr
  obtain ⟨rfl, rfl, rfl⟩ := h
  obtain ⟨rfl, rfl, hn, rfl, hn2, hf⟩ := hvc
  generalize vInt f = v at hf
  subst hf
  refine SpecOK.wpL (prg hP) [] [(5, L_mm n v (minV v)), (1002, fun _ _ => False)] 0 .nil (hP ▸ Tryz.func170) rfl rfl rfl
    [(regC Tryz.f170 2, fun _ _ => False), (loopC Tryz.f170 5, L_mm n v (minV v))] (by kernel_rfl) ⟨fun _ _ h => h.elim, min_loop hP n v, trivial⟩ ?_
  show wpFn _ _ _ _ _ _ [.row _ _ _ (fun i => [.int .i64 (v i)]) _] _
  rw [nf_min]
  exact condP_dec (fun h => absurd h (by omega)) (fun _ => ⟨by omega, by omega, ⟨rfl, rowsEq1⟩, hn, hn2, fun _ _ => rfl, _, rowsEq1, rfl, rfl⟩)

theorem max_ok (hP : C.P = Tryz.prog) : SpecOK C 171 S_max := by
  rintro args objs U Os vc h hvc
  unfold S_max at h
  split at h <;> simp only [Option.some.injEq, Prod.mk.injEq, reduceCtorEq] at h
  rename_i n t m f fr
  obtain ⟨rfl, rfl, rfl⟩ := h
  obtain ⟨rfl, rfl, hn, rfl, hn2, hf⟩ := hvc
  generalize vInt f = v at hf
  subst hf
  refine SpecOK.wpL (prg hP) [] [(5, L_mm n v (maxV v)), (1002, fun _ _ => False)] 0 .nil (hP ▸ Tryz.func171) rfl rfl rfl
    [(regC Tryz.f171 2, fun _ _ => False), (loopC Tryz.f171 5, L_mm n v (maxV v))] (by kernel_rfl) ⟨fun _ _ h => h.elim, max_loop hP n v, trivial⟩ ?_
  show wpFn _ _ _ _ _ _ [.row _ _ _ (fun i => [.int .i64 (v i)]) _] _
  rw [nf_max]
  exact condP_dec (fun h => absurd h (by omega)) (fun _ => ⟨by omega, by omega, ⟨rfl, rowsEq1⟩, hn, hn2, fun _ _ => rfl, _, rowsEq1, rfl, rfl⟩)

theorem itoa_ok (hP : C.P = Tryz.prog) : SpecOK C 172 S_itoa := by
  rintro args objs U Os vc h hvc
  unfold S_itoa at h
  split at h <;> simp only [Option.some.injEq, Prod.mk.injEq, reduceCtorEq] at h
  rename_i n
  obtain ⟨rfl, rfl, rfl⟩ := h
  obtain ⟨i, rfl⟩ : ∃ i : Nat, n = i := ⟨n.toNat, by omega⟩
  refine ACalls.below ⟨Tryz.f172, hP ▸ Tryz.func172, rfl, by decide⟩ fun w M cargs _ _ hM hl hv => ?_
  obtain ⟨a, rfl⟩ := mem1 hl
  have := (hv 0 _ _ rfl rfl).int_iff
  subst this
  rw [hP]
  refine (Tryz.strconv_Itoa_small i (by omega) w).mono ?_
  rintro e w' ⟨rfl, rfl⟩
  exact ⟨_, rfl, Below.refl _ _, .str (by simp [decF])⟩

theorem format_loop (hP : C.P = Tryz.prog) (n : Nat) (v : Nat → Int) : LoopOK C 1 49 (loopC Tryz.f160 7) (L_fmt n v) := by
  rintro st Q ⟨h0, hok, hQ⟩
  have hv := fmtOK_at hok
  have hn := fmtOK_n hok
  refine LoopOK.mk (prg hP) [(172, .det S_itoa)] 0 (.cons (itoa_ok hP) .nil) [4, 36, 37, 38] [4] [] (S_fmtState n v) (fun k => k ≤ n - 1) (fun k => n - k) 0 (Nat.zero_le _) h0 (fun k hk => ?_) (fun i => ⟨fun _ _ => rfl, trivial⟩)
  rw [nf_format_round]
  have hl1 := fmtHead_len (hv 0 (by omega))
  have hl2 := fmtRest_len (n := n) (fun i hi => hv i hi) k (by omega)
  refine condP_dec (fun h => ?_) (fun h => ⟨fun _ _ => rfl, _, rowsEq1, ?_⟩)
  · have hlt : k < n - 1 := by omega
    have e : 1 + (k : Int).toNat = k + 1 := by omega
    have hk1 := hv (k + 1) (by omega)
    have hl3 := decF_len hk1
    simp only [inR, e, and_true, List.length_append, List.length_cons, List.length_nil]
    refine ⟨by omega, by omega, by omega, by omega, by omega, by omega, k + 1, ⟨?_, rowsEq1⟩, by omega, by omega⟩
    unfold TEq
    rw [show fmtRest v (k + 1) = fmtRest v k ++ (46 :: decF (v (k + 1))) from rfl]
    simp
  · have : k = n - 1 := by omega
    rw [this]; exact hQ

theorem format_ok (hP : C.P = Tryz.prog) : SpecOK C 160 S_format := by
  rintro args objs U Os vc h hvc
  unfold S_format at h
  split at h <;> simp only [Option.some.injEq, Prod.mk.injEq, reduceCtorEq] at h
  rename_i n t m f fr
  obtain ⟨rfl, rfl, rfl⟩ := h
  obtain ⟨rfl, rfl, rfl, hn2, hf⟩ := hvc
  generalize vInt f = v at hf
  subst hf
  refine SpecOK.wpL (prg hP) [(170, .det S_min), (171, .det S_max), (172, .det S_itoa)] [(7, L_fmt n v)] 0 (.cons (min_ok hP) (.cons (max_ok hP) (.cons (itoa_ok hP) .nil))) (hP ▸ Tryz.func160) rfl rfl rfl
    [(loopC Tryz.f160 7, L_fmt n v)] (by kernel_rfl) ⟨format_loop hP n v, trivial⟩ ?_
  show wpFn _ _ _ _ _ _ [.row _ _ _ (fun i => [.int .i64 (v i)]) _] _
  rw [nf_format]
  have hvi : (vInt fun i => [AV.int .i64 (v i)]) = v := rfl
  rw [hvi]
  have bad : fmtOK n v = false → (AV.tuple [.str [], .int .i64 64] = .tuple [.str (bif fmtOK n v then fmtZ n v else []), .int .i64 (bif fmtOK n v then 0 else 64)]) := fun h => by rw [h]; rfl
  have good : fmtOK n v = true → (AV.tuple [.str (fmtZ n v), .int .i64 0] = .tuple [.str (bif fmtOK n v then fmtZ n v else []), .int .i64 (bif fmtOK n v then 0 else 64)]) := fun h => by rw [h]; rfl
  refine condP_dec (fun h1 => ⟨fun _ _ => rfl, _, rowsEq1, bad ?_, rfl⟩) (fun h1 => condP_dec (fun h2 => ⟨fun _ _ => rfl, _, rowsEq1, bad ?_, rfl⟩) (fun h2 => ⟨fun _ _ => rfl, ⟨rfl, rfl, by omega, rfl, hn2, rfl⟩, fun _ _ => rfl,
    condP_dec (fun h3 => ⟨fun _ _ => rfl, _, rowsEq1, bad ?_, rfl⟩) (fun h3 => ⟨fun _ _ => rfl, ⟨rfl, rfl, by omega, rfl, hn2, rfl⟩, fun _ _ => rfl, condP_dec (fun h4 => ⟨fun _ _ => rfl, _, rowsEq1, bad ?_, rfl⟩) (fun h4 => ?_)⟩)⟩))
  · unfold fmtOK; rw [decide_eq_false (p := 1 ≤ n) (by omega)]; rfl
  · unfold fmtOK; rw [decide_eq_false (p := n ≤ 5) (by omega)]; simp
  · unfold fmtOK; rw [decide_eq_false (p := 1 ≤ minV v (n - 1)) (by omega)]; simp
  · unfold fmtOK; rw [decide_eq_false (p := maxV v (n - 1) ≤ 99) (by omega)]; simp
  · have hok : fmtOK n v = true := by
      unfold fmtOK
      rw [decide_eq_true (p := 1 ≤ n) (by omega), decide_eq_true (p := n ≤ 5) (by omega), decide_eq_true (p := 1 ≤ minV v (n - 1)) (by omega), decide_eq_true (p := maxV v (n - 1) ≤ 99) (by omega)]; rfl
    have hv := fmtOK_at hok 0 (by omega)
    have hl3 := decF_len hv
    refine ⟨by omega, ⟨by omega, rfl⟩, by omega, by omega, ⟨by omega, rfl⟩, condP_dec (fun h5 => ⟨by simp only [List.length_cons, List.length_nil]; omega, by omega, ⟨?_, rowsEq1⟩, hok, fun _ _ => rfl, _, rowsEq1, good hok, rfl⟩) (fun h5 => ⟨by omega, ⟨?_, rowsEq1⟩, hok, fun _ _ => rfl, _, rowsEq1, good hok, rfl⟩)⟩
    · unfold TEq fmtHead
      rw [decide_eq_true h5]
      simp [fmtRest]
    · unfold TEq fmtHead
      rw [decide_eq_false h5]
      simp [fmtRest]

end Go.Eng
