/- Lemmas that the tied card of ScannerValid is proved by. -/
import Derived.Test.YtokpcnppihgdlaaGreatDoorGo
import Derived.Test.YtokpcnppihgdlaaGreatDoorGm
import Derived.Test.YtokpcnppihgdlaaGreatDoorGs
import Derived.Test.YtokpcnppihgdlaaGreatDoorGj
/- Comparing and sorting. -/
namespace Go.Eng
open Go.Proofs Go.RowKit Go.Sort
variable {C : Ctx}
set_option maxRecDepth 20000
theorem nf_nan (x : Int) (R : AV → List (Nat × AObj) → Prop) : wpFn te [] [] 0 Tryz.f90 [.int .i64 x] [] R = (R (.bool !decide (x = x)) []) := by kernel_rfl
theorem nf_icmp (a b : Int) (R : AV → List (Nat × AObj) → Prop) : wpFn te [(90, .det S_nan)] [] 0 Tryz.f56 [.int .i64 a, .int .i64 b] [] R = (True ∧ True ∧ condP (decide (a < b)) (R (.int .i64 (-1 : Int)) []) (condP (decide (b < a)) (R (.int .i64 1) []) (R (.int .i64 0) []))) := by kernel_rfl
theorem nf_nan64 (x : Int) (R : AV → List (Nat × AObj) → Prop) : wpFn te [] [] 0 Tryz.f136 [.int .i64 x] [] R = (R (.bool !decide (x = x)) []) := by kernel_rfl
theorem nf_icmp64 (a b : Int) (R : AV → List (Nat × AObj) → Prop) : wpFn te [(136, .det S_nan)] [] 0 Tryz.f103 [.int .i64 a, .int .i64 b] [] R = (True ∧ True ∧ condP (decide (a < b)) (R (.int .i64 (-1 : Int)) []) (condP (decide (b < a)) (R (.int .i64 1) []) (R (.int .i64 0) []))) := by kernel_rfl
theorem nf_or (f : Nat → List AV) (n : Nat) (R : AV → List (Nat × AObj) → Prop) : wpFn te [] [(3, L_or (vInt f) n)] 0 Tryz.f54 [.own 0 n] [.row 3 1 n f false] R = ((TEq [(3, .int .i64 0), (6, .own 0 n), (7, .int .i64 (↑n : Int)), (8, .int .i64 0)] [(3, .int .i64 0), (6, .own 0 n), (7, .int .i64 (↑n : Int)), (8, .int .i64 (↑0 : Int))] ∧ RowsEq [(0, .row 3 1 n f false)] [(0, .row 3 1 n (intRow (vInt f)) false)]) ∧ n ≤ 100 ∧ condP (decide (orN (vInt f) n = (0 : Int))) ((∀ (i : Nat), i < n → true = true) ∧ ∃ (O' : List (Nat × AObj)), RowsEq [(0, .row 3 1 n (intRow (vInt f)) false)] O' ∧ R (.int .i64 0) O') ((∀ (i : Nat), i < n → true = true) ∧ ∃ (O' : List (Nat × AObj)), RowsEq [(0, .row 3 1 n (intRow (vInt f)) false)] O' ∧ R (.int .i64 (orN (vInt f) n)) O')) := by kernel_rfl
theorem nf_or_round (v : Nat → Int) (n k : Nat) (P : Nat → Prop) (R : Exit → St → Prop) : roundP ⟨te, [], [], 1, 18, 0⟩ (loopB Tryz.f54 3) [3, 6, 7, 8] [3] [2] (S_orl v n) P R (S_orl v n k) = (condP (decide ((↑k : Int) < (↑n : Int))) (((0 : Int) ≤ (↑k : Int) ∧ (↑k : Int) < (↑n : Int)) ∧ (Int.toNat (↑k : Int) < n ∧ 1 = 1) ∧ condP (!decide (v (Int.toNat (↑k : Int)) = (0 : Int))) ((∀ (i : Nat), i < n → true = true) ∧ ∃ (O' : List (Nat × AObj)), RowsEq [(0, .row 3 1 n (intRow v) false)] O' ∧ R .ret (St.mk [(2, .int .i64 (v (Int.toNat (↑k : Int))))] O' 1 [])) (inR .i64 ((↑k : Int) + (1 : Int)) ∧ ∃ (i' : Nat), (TEq [(3, .int .i64 0), (6, .own 0 n), (7, .int .i64 (↑n : Int)), (8, .int .i64 ((↑k : Int) + (1 : Int)))] [(3, .int .i64 0), (6, .own 0 n), (7, .int .i64 (↑n : Int)), (8, .int .i64 (↑i' : Int))] ∧ RowsEq [(0, .row 3 1 n (intRow v) false)] [(0, .row 3 1 n (intRow v) false)]) ∧ P i')) ((∀ (i : Nat), i < n → true = true) ∧ ∃ (O' : List (Nat × AObj)), RowsEq [(0, .row 3 1 n (intRow v) false)] O' ∧ R (.exit 0) (St.mk [(3, .int .i64 0)] O' 1 []))) := by kernel_rfl
theorem nf_rcmp (o p : List UInt8) (per u tv : Int) (o' p' : List UInt8) (per' u' tv' : Int) (R : AV → List (Nat × AObj) → Prop) : wpFn te [(55, .det S_scmp), (56, .det S_icmp), (54, .det S_or)] [] 0 Tryz.f53 [.agg [.str o, .str p, .int .i64 per, .int .i64 u, .int .i64 tv], .agg [.str o', .str p', .int .i64 per', .int .i64 u', .int .i64 tv']] [] R = (True ∧ True ∧ True ∧ (3 ≤ 16777216 ∧ 1 = 1 ∧ 3 ≤ 9223372036854775807) ∧ (∀ (i : Nat), i < 3 → nrefL (chunkA (TI.sz (TI.mk (TypeDesc.int IntKind.i64) 1 8 (Value.int IntKind.i64 0) false)) (.int .i64 (cmpS o o') :: .int .i64 (cmpS p p') :: .int .i64 (cmpI per per') :: List.append [] (List.flatten (List.replicate (nat_lit 0) [.int .i64 0]))) i) = true) ∧ (3 = 3 ∧ false = false ∧ 3 = 3 ∧ 3 ≤ 100 ∧ ∀ (i : Nat), i < 3 → chunkA (TI.sz (TI.mk (TypeDesc.int IntKind.i64) 1 8 (Value.int IntKind.i64 0) false)) (.int .i64 (cmpS o o') :: .int .i64 (cmpS p p') :: .int .i64 (cmpI per per') :: List.append [] (List.flatten (List.replicate (nat_lit 0) [.int .i64 0]))) i = [.int .i64 (vInt (chunkA (TI.sz (TI.mk (TypeDesc.int IntKind.i64) 1 8 (Value.int IntKind.i64 0) false)) (.int .i64 (cmpS o o') :: .int .i64 (cmpS p p') :: .int .i64 (cmpI per per') :: List.append [] (List.flatten (List.replicate (nat_lit 0) [.int .i64 0])))) i)]) ∧ (∀ (i : Nat), i < 3 → nrefL (chunkA (TI.sz (TI.mk (TypeDesc.int IntKind.i64) 1 8 (Value.int IntKind.i64 0) false)) (.int .i64 (cmpS o o') :: .int .i64 (cmpS p p') :: .int .i64 (cmpI per per') :: List.append [] (List.flatten (List.replicate (nat_lit 0) [.int .i64 0]))) i) = true) ∧ R (.int .i64 (orN (vInt (chunkA (TI.sz (TI.mk (TypeDesc.int IntKind.i64) 1 8 (Value.int IntKind.i64 0) false)) (.int .i64 (cmpS o o') :: .int .i64 (cmpS p p') :: .int .i64 (cmpI per per') :: List.append [] (List.flatten (List.replicate (nat_lit 0) [.int .i64 0]))))) 3)) []) := by kernel_rfl

theorem compareBytes_eq : ∀ a b : List UInt8, Lib.compareBytes a b = cmpS a b
  | [], [] => rfl
  | [], _ :: _ => rfl
  | _ :: _, [] => rfl
  | a :: x, b :: y => by
    have ih := compareBytes_eq x y
    rw [Lib.compareBytes, ih]
    unfold cmpS
    simp only [Op.bytesLess]
    by_cases h : a < b
    · simp [h]
    · by_cases h' : b < a
      · have : (a == b) = false := by
          rw [beq_eq_false_iff_ne]
          exact fun e => by subst e; exact h h'
        simp [h, h', this]
      · have e : a = b := by
          rcases Nat.lt_trichotomy a.toNat b.toNat with q | q | q
          · exact absurd q h
          · exact UInt8.toNat_inj.1 q
          · exact absurd q h'
        subst e
        simp [h]

theorem scmp_ok (hP : C.P = Tryz.prog) : SpecOK C 55 S_scmp := by
  rintro args objs U Os vc h hvc
  unfold S_scmp at h
  split at h <;> simp only [Option.some.injEq, Prod.mk.injEq, reduceCtorEq] at h
  rename_i a b
  obtain ⟨rfl, rfl, rfl⟩ := h
  refine ACalls.quiet ⟨Tryz.f55, hP ▸ Tryz.func55, rfl, by decide⟩ fun E bs w cargs hW hl hv => ?_
  obtain ⟨x, y, rfl⟩ : ∃ x y, cargs = [x, y] := by
    match cargs, hl with
    | [x, y], _ => exact ⟨x, y, rfl⟩
  have e1 := (hv 0 _ _ rfl rfl).str_iff
  have e2 := (hv 1 _ _ rfl rfl).str_iff
  subst e1; subst e2
  rw [hP]
  refine (Tryz.strings_Compare ⟨a.toArray⟩ ⟨b.toArray⟩ w).mono ?_
  rintro e w' ⟨rfl, rfl⟩
  refine ⟨_, rfl, rfl, ?_⟩
  rw [compareBytes_eq]
  exact .int
theorem nan_ok (hP : C.P = Tryz.prog) : SpecOK C 90 S_nan := by
  rintro args objs U Os vc h hvc
  unfold S_nan at h
  split at h <;> simp only [Option.some.injEq, Prod.mk.injEq, reduceCtorEq] at h
  obtain ⟨rfl, rfl, rfl⟩ := h
  refine SpecOK.wp0 (prg hP) [] 0 .nil (hP ▸ Tryz.func90) rfl rfl rfl ?_
  rw [nf_nan, decide_eq_true rfl]
  exact ⟨rfl, rfl⟩
theorem nan64_ok (hP : C.P = Tryz.prog) : SpecOK C 136 S_nan := by
  rintro args objs U Os vc h hvc
  unfold S_nan at h
  split at h <;> simp only [Option.some.injEq, Prod.mk.injEq, reduceCtorEq] at h
  obtain ⟨rfl, rfl, rfl⟩ := h
  refine SpecOK.wp0 (prg hP) [] 0 .nil (hP ▸ Tryz.func136) rfl rfl rfl ?_
  rw [nf_nan64, decide_eq_true rfl]
  exact ⟨rfl, rfl⟩
theorem icmp_ok (hP : C.P = Tryz.prog) : SpecOK C 56 S_icmp := by
  rintro args objs U Os vc h hvc
  unfold S_icmp at h
  split at h <;> simp only [Option.some.injEq, Prod.mk.injEq, reduceCtorEq] at h
  obtain ⟨rfl, rfl, rfl⟩ := h
  refine SpecOK.wp0 (prg hP) [(90, .det S_nan)] 0 (.cons (nan_ok hP) .nil) (hP ▸ Tryz.func56) rfl rfl rfl ?_
  rw [nf_icmp]
  unfold cmpI
  exact ⟨trivial, trivial, condP_intro (fun h => by rw [h]; exact ⟨rfl, rfl⟩) (fun h => condP_intro (fun k => by rw [h, k]; exact ⟨rfl, rfl⟩) (fun k => by rw [h, k]; exact ⟨rfl, rfl⟩))⟩
theorem icmp64_ok (hP : C.P = Tryz.prog) : SpecOK C 103 S_icmp := by
  rintro args objs U Os vc h hvc
  unfold S_icmp at h
  split at h <;> simp only [Option.some.injEq, Prod.mk.injEq, reduceCtorEq] at h
  obtain ⟨rfl, rfl, rfl⟩ := h
  refine SpecOK.wp0 (prg hP) [(136, .det S_nan)] 0 (.cons (nan64_ok hP) .nil) (hP ▸ Tryz.func103) rfl rfl rfl ?_
  rw [nf_icmp64]
  unfold cmpI
  exact ⟨trivial, trivial, condP_intro (fun h => by rw [h]; exact ⟨rfl, rfl⟩) (fun h => condP_intro (fun k => by rw [h, k]; exact ⟨rfl, rfl⟩) (fun k => by rw [h, k]; exact ⟨rfl, rfl⟩))⟩

theorem orN_stop {v : Nat → Int} {k : Nat} (h : orN v k = 0) (hv : v k ≠ 0) : ∀ n, k < n → orN v n = v k
  | 0, hn => by omega
  | n + 1, hn => by
    rw [orN]
    by_cases e : k = n
    · subst e; rw [h]; rfl
    · rw [orN_stop h hv n (by omega), decide_eq_false hv]; rfl
theorem or_loop (hP : C.P = Tryz.prog) (v : Nat → Int) (n : Nat) : LoopOK C 1 18 (loopC Tryz.f54 3) (L_or v n) := by
  rintro st Q ⟨h0, hn, hQ⟩
  have hR := condP_elim hQ
  refine LoopOK.mk (prg hP) [] 0 .nil [3, 6, 7, 8] [3] [2] (S_orl v n) (fun k => k ≤ n ∧ orN v k = 0) (fun k => n - k) 0 ⟨Nat.zero_le _, rfl⟩ h0 (fun k hk => ?_) (fun i => ⟨fun _ _ => rfl, trivial⟩)
  obtain ⟨hkn, hok⟩ := hk
  rw [nf_or_round, Int.toNat_natCast]
  refine condP_dec (fun h1 => ⟨⟨by omega, by omega⟩, ⟨by omega, rfl⟩, condP_ndec (fun h2 => ⟨fun _ _ => rfl, _, rowsEqR _, ?_⟩) (fun h2 => ⟨by simp only [inR]; omega, k + 1, ⟨rfl, rowsEqR _⟩, ⟨by omega, ?_⟩, by omega⟩)⟩) (fun h1 => ⟨fun _ _ => rfl, _, rowsEqR _, ?_⟩)
  · have e := orN_stop hok h2 n (by omega)
    have := hR.2 (by rw [e, decide_eq_false h2])
    rw [e] at this; exact this
  · rw [orN, hok]; exact h2
  · have : k = n := by omega
    subst this
    exact hR.1 (by rw [hok]; rfl)
theorem or_ok (hP : C.P = Tryz.prog) : SpecOK C 54 S_or := by
  rintro args objs U Os vc h hvc
  unfold S_or at h
  split at h <;> simp only [Option.some.injEq, Prod.mk.injEq, reduceCtorEq] at h
  rename_i n t m f fr
  obtain ⟨rfl, rfl, rfl⟩ := h
  obtain ⟨rfl, rfl, rfl, hn, hf⟩ := hvc
  have hrow : RowsEq [(0, AObj.row 3 1 n (intRow (vInt f)) false)] [(0, .row 3 1 n f false)] := ⟨⟨rfl, rfl, rfl, rfl, rfl, fun i hi => (hf i hi).symm⟩, trivial⟩
  refine SpecOK.wpL (prg hP) [] [(3, L_or (vInt f) n)] 0 .nil (hP ▸ Tryz.func54) rfl rfl rfl [(loopC Tryz.f54 3, L_or (vInt f) n)] (by kernel_rfl) ⟨or_loop hP _ _, trivial⟩ ?_
  rw [nf_or]
  refine ⟨⟨rfl, ⟨rfl, rfl, rfl, rfl, rfl, hf⟩, trivial⟩, hn, condP_dec (fun h => ⟨fun _ _ => rfl, _, hrow, ?_⟩) (fun h => ⟨fun _ _ => rfl, _, hrow, rfl, rfl⟩)⟩
  rw [h]; exact ⟨rfl, rfl⟩

theorem orL_snoc (x : Int) : ∀ l : List Int, orL (l ++ [x]) = bif decide (orL l = 0) then x else orL l
  | [] => by simp only [List.nil_append, orL]; by_cases h : x = 0 <;> simp [h]
  | y :: l => by
    rw [List.cons_append, orL, orL_snoc x l, orL]
    by_cases h : y = 0
    · simp [h]
    · simp [h]
theorem orN_eq (v : Nat → Int) : ∀ n, orN v n = orL ((List.range n).map v)
  | 0 => rfl
  | n + 1 => by rw [List.range_succ, List.map_append, List.map_singleton, orL_snoc, orN, orN_eq v n]

theorem rcmp_ok (hP : C.P = Tryz.prog) : SpecOK C 53 S_rcmp := by
  rintro args objs U Os vc h hvc
  unfold S_rcmp at h
  split at h <;> simp only [Option.some.injEq, Prod.mk.injEq, reduceCtorEq] at h
  rename_i o p per u tv o' p' per' u' tv'
  obtain ⟨rfl, rfl, rfl⟩ := h
  refine SpecOK.wp0 (prg hP) [(55, .det S_scmp), (56, .det S_icmp), (54, .det S_or)] 0 (.cons (scmp_ok hP) (.cons (icmp_ok hP) (.cons (or_ok hP) .nil))) (hP ▸ Tryz.func53) rfl rfl rfl ?_
  rw [nf_rcmp, orN_eq]
  have three : ∀ {p : Nat → Prop}, p 0 → p 1 → p 2 → ∀ i, i < 3 → p i := fun h0 h1 h2 i hi => by
    match i, hi with
    | 0, _ => exact h0
    | 1, _ => exact h1
    | 2, _ => exact h2
  exact ⟨trivial, trivial, trivial, ⟨by omega, rfl, by omega⟩, three rfl rfl rfl, ⟨rfl, rfl, rfl, by omega, three rfl rfl rfl⟩, three rfl rfl rfl, rfl, rfl⟩

theorem swo_of {α : Type} {c : α → α → Int} (h : PreC c) : SWO (ltOf c) where
  irrefl x := by simp [ltOf, h.self x]
  trans x y z h1 h2 := by
    simp only [ltOf, decide_eq_true_eq] at *
    exact h.lt_trans h1 h2
  ntrans x y z h1 h2 := by
    simp only [ltOf, decide_eq_false_iff_not] at *
    intro q
    have := h.neg x y
    have := h.neg y x
    have := h.neg y z
    have := h.neg z y
    have := h.neg x z
    have := h.neg z x
    have := h.trans z y x (by omega) (by omega)
    omega

theorem srt_asc {α : Type} {c : α → α → Int} (hc : PreC c) {l : List α} (hn : l.Pairwise fun x y => c x y ≠ 0) : Asc c (l.mergeSort fun a b => decide (c a b ≤ 0)) ∧ (l.mergeSort fun a b => decide (c a b ≤ 0)).Perm l := by
  have hp := List.mergeSort_perm l fun a b => decide (c a b ≤ 0)
  refine ⟨?_, hp⟩
  have hs := List.pairwise_mergeSort (le := fun a b => decide (c a b ≤ 0)) (fun a b d h1 h2 => by simp only [decide_eq_true_eq] at *; exact hc.trans a b d h1 h2) (fun a b => by
    have := hc.neg a b
    simp only [Bool.or_eq_true, decide_eq_true_eq]
    omega) l
  have hn' : (l.mergeSort fun a b => decide (c a b ≤ 0)).Pairwise fun x y => c x y ≠ 0 := (hp.symm.pairwise_iff (fun {a b} h q => h (hc.eq_symm q))).1 hn
  exact (hs.and hn').imp fun {a b} ⟨h1, h2⟩ => by simp only [decide_eq_true_eq] at h1; omega

theorem sortR_ok (hP : C.P = Tryz.prog) : RSpecOK C 52 R_sortR := by
  rintro args objs R h
  unfold R_sortR at h
  split at h
  · rename_i n t m f fr
    obtain ⟨rfl, rfl, rfl, hn, hf, hd, hR⟩ := h
    generalize rwOf f = g at *
    subst hf
    have hS := ACalls.sortK (C := C) (fun r : RW => [.str r.o, .str r.p, .int .i64 r.per, .int .i64 r.u, .int .i64 r.tv]) 5 (fun _ => rfl) (fun x u hu => by
        simp only [List.mem_cons, List.not_mem_nil, or_false] at hu
        rcases hu with rfl | rfl | rfl | rfl | rfl <;> rfl) keyC (t := 39) (fS := 52) (g := 53)
      ⟨_, hP ▸ Tryz.func52, rfl, by decide⟩
      (fun blk cap d w h1 h2 h3 h4 => by
        rw [hP] at h1 ⊢
        exact AnyQ.slices_SortFunc Tryz.sort52 5 Tryz.isAgg39 Tryz.sizeOf39 _ (fun _ => rfl) (fun x v hv => by
          simp only [encV, List.map_cons, List.map_nil, List.mem_cons, List.not_mem_nil, or_false] at hv
          rcases hv with rfl | rfl | rfl | rfl | rfl <;> rfl) keyC (swo_of keyC_preC) 53 #[] blk 0 cap d w (enters_of Tryz.func53 (by kernel_rfl) rfl) h1 h2 h3 h4)
      (fun p cap fv w => by
        rw [hP]
        exact AnyF.slices_SortFunc_none Tryz.sort52 p cap fv w)
      (fun x y => rcmp_ok (C := Ctx.bare C.P C.mixed) hP _ _ _ _ _ rfl trivial) g (n := n) (by omega)
    refine hS.mono ?_
    rintro u O ⟨rfl, f', hp, hs, rfl⟩
    refine hR f' ?_
    have hd' : (lst g n).Pairwise fun a b => keyC a b ≠ 0 := hd.imp fun {a b} h q => by rw [keyC_zero.1 q] at h; cases h
    obtain ⟨a1, a2⟩ := srt_asc keyC_preC hd'
    refine Asc.uniq keyC_preC (Asc.of_sorted (pairwise_range fun i j hij hj => hs i j hij hj) keyC_preC ((hp.symm.pairwise_iff (fun {a b} h q => h (keyC_preC.eq_symm q))).1 hd')) a1 fun x => ?_
    rw [show x ∈ srtR (lst g n) ↔ x ∈ lst g n from a2.mem_iff]
    exact hp.mem_iff
  · exact h.elim
end Go.Eng
/- Combine: what it answers. -/
namespace Go.Eng
open Go.Proofs Go.RowKit
variable {C : Ctx} [C.Loose]
set_option maxRecDepth 20000
theorem nf_comb (g : Nat → RW) (n : Nat) (R : AV → List (Nat × AObj) → Prop) : wpFn te [(19, .det S_sval), (52, .rel R_sortR)] [(6, L_cb g n), (15, L_cr (sumsF g n))] 0 Tryz.f17 [.view 5 n (rwRow g)] [] R = ((n ≤ 1000000 ∧ rwRow g = rwRow (rwOf (rwRow g)) ∧ ∀ (i : Nat), i < n → List.length (RW.o (rwOf (rwRow g) i)) < 4294967281) ∧ condP (!decide (svF (rwOf (rwRow g)) n = (0 : Int))) (R (.tuple [.nil, .int .i64 (svF (rwOf (rwRow g)) n)]) []) (some (St.mk [(5, .map 0), (18, .view 5 n (rwRow g)), (19, .int .i64 (↑n : Int)), (20, .int .i64 0)] [(0, .amap (List.map (fun (p : AV × AV) => (AV.rn (ren 0 [(16, 0)]) (Prod.fst p), AV.rn (ren 0 [(16, 0)]) (Prod.snd p))) []))] 1 []) = some (St.mk [(5, .map 0), (18, .view 5 n (rwRow g)), (19, .int .i64 (↑n : Int)), (20, .int .i64 (↑0 : Int))] [(0, .amap (entC (sumsF g 0)))] 1 []) ∧ n ≤ 24000 ∧ (∀ (i : Nat), i < n → rowF (g i) = true) ∧ (TEq [(9, .own 0 0), (52, .ptr 1 0)] [(9, .own 0 0), (52, .ptr 1 0)] ∧ RowsEq [(0, .row 39 5 0 (fun (x : Nat) => []) false), (1, .miter 2 (List.length (entC (sumsF g n))) (82 :: List.length (entC (sumsF g n)) :: List.range (List.length (entC (sumsF g n))))), (2, .amap (List.map (fun (p : AV × AV) => (AV.rn (ren 0 [(2, 0), (1, 1), (0, 2)]) (Prod.fst p), AV.rn (ren 0 [(2, 0), (1, 1), (0, 2)]) (Prod.snd p))) (entC (sumsF g n))))] [(0, .row 39 5 0 (rwRow (IT.h (IT.mk 0 (fun (x : Nat) => default) (List.length (entC (sumsF g n))) (List.range (List.length (entC (sumsF g n))))))) false), (1, .miter 2 (List.length (entC (sumsF g n))) (82 :: IT.c0 (IT.mk 0 (fun (x : Nat) => default) (List.length (entC (sumsF g n))) (List.range (List.length (entC (sumsF g n))))) :: IT.left (IT.mk 0 (fun (x : Nat) => default) (List.length (entC (sumsF g n))) (List.range (List.length (entC (sumsF g n))))))), (2, .amap (entC (sumsF g n)))]) ∧ List.length (sumsF g n) ≤ 24000 ∧ ∀ (h : Nat → RW), List.Perm (lst h (List.length (sumsF g n))) (sumsF g n) → (∀ (i : Nat), i < List.length (sumsF g n) → true = true) ∧ 39 = 39 ∧ false = false ∧ List.length (sumsF g n) = List.length (sumsF g n) ∧ List.length (sumsF g n) ≤ 1000000 ∧ rwRow h = rwRow (rwOf (rwRow h)) ∧ List.Pairwise (fun (a b : RW) => sameK a b = false) (lst (rwOf (rwRow h)) (List.length (sumsF g n))) ∧ ∀ (h_1 : Nat → RW), lst h_1 (List.length (sumsF g n)) = srtR (lst (rwOf (rwRow h)) (List.length (sumsF g n))) → (∀ (i : Nat), i < List.length (sumsF g n) → true = true) ∧ (∀ (i : Nat), i < List.length (sumsF g n) → true = true) ∧ ∃ (O' : List (Nat × AObj)), RowsEq [(0, .row 39 5 (List.length (sumsF g n)) (rwRow h_1) false)] O' ∧ R (.tuple [.own 0 (List.length (sumsF g n)), .int .i64 0]) O')) := by kernel_rfl
theorem nf_cb_round (g : Nat → RW) (n k : Nat) (P : Nat → Prop) (R : Exit → St → Prop) : roundP ⟨te, [], [], 0, 64, 0⟩ (loopB Tryz.f17 6) [5, 18, 19, 20] [5] [] (S_cb g n) P R (S_cb g n k) = (condP (decide ((↑k : Int) < (↑n : Int))) (((0 : Int) ≤ (↑k : Int) ∧ (↑k : Int) < (↑n : Int) ∧ 5 = 5) ∧ (KeysA (Env.te (Env.mk te [] [] 0 64 0)) 84 (entC (sumsF g k)) ∧ .agg [.str (strOf (cellA (Option.getD (mget (entC (sumsF g k)) (.agg [.str (RW.o (g (Int.toNat (↑k : Int)))), .str (RW.p (g (Int.toNat (↑k : Int)))), .int .i64 (RW.per (g (Int.toNat (↑k : Int))))])) (.agg [.str ([]), .str ([]), .int .i64 0, .int .i64 0, .int .i64 0])) 0)), .str (strOf (cellA (Option.getD (mget (entC (sumsF g k)) (.agg [.str (RW.o (g (Int.toNat (↑k : Int)))), .str (RW.p (g (Int.toNat (↑k : Int)))), .int .i64 (RW.per (g (Int.toNat (↑k : Int))))])) (.agg [.str ([]), .str ([]), .int .i64 0, .int .i64 0, .int .i64 0])) (0 + 1))), .int .i64 (intOf (cellA (Option.getD (mget (entC (sumsF g k)) (.agg [.str (RW.o (g (Int.toNat (↑k : Int)))), .str (RW.p (g (Int.toNat (↑k : Int)))), .int .i64 (RW.per (g (Int.toNat (↑k : Int))))])) (.agg [.str ([]), .str ([]), .int .i64 0, .int .i64 0, .int .i64 0])) (0 + 1 + 1))), .int .i64 (intOf (cellA (Option.getD (mget (entC (sumsF g k)) (.agg [.str (RW.o (g (Int.toNat (↑k : Int)))), .str (RW.p (g (Int.toNat (↑k : Int)))), .int .i64 (RW.per (g (Int.toNat (↑k : Int))))])) (.agg [.str ([]), .str ([]), .int .i64 0, .int .i64 0, .int .i64 0])) (0 + 1 + 1 + 1))), .int .i64 (intOf (cellA (Option.getD (mget (entC (sumsF g k)) (.agg [.str (RW.o (g (Int.toNat (↑k : Int)))), .str (RW.p (g (Int.toNat (↑k : Int)))), .int .i64 (RW.per (g (Int.toNat (↑k : Int))))])) (.agg [.str ([]), .str ([]), .int .i64 0, .int .i64 0, .int .i64 0])) (0 + 1 + 1 + 1 + 1)))] = Option.getD (mget (entC (sumsF g k)) (.agg [.str (RW.o (g (Int.toNat (↑k : Int)))), .str (RW.p (g (Int.toNat (↑k : Int)))), .int .i64 (RW.per (g (Int.toNat (↑k : Int))))])) (.agg [.str ([]), .str ([]), .int .i64 0, .int .i64 0, .int .i64 0])) ∧ inR .i64 (RW.u (g (Int.toNat (↑k : Int))) + intOf (cellA (Option.getD (mget (entC (sumsF g k)) (.agg [.str (RW.o (g (Int.toNat (↑k : Int)))), .str (RW.p (g (Int.toNat (↑k : Int)))), .int .i64 (RW.per (g (Int.toNat (↑k : Int))))])) (.agg [.str ([]), .str ([]), .int .i64 0, .int .i64 0, .int .i64 0])) (0 + 1 + 1 + 1))) ∧ (KeysA (Env.te (Env.mk te [] [] 0 64 0)) 84 (entC (sumsF g k)) ∧ .agg [.str (strOf (cellA (Option.getD (mget (entC (sumsF g k)) (.agg [.str (RW.o (g (Int.toNat (↑k : Int)))), .str (RW.p (g (Int.toNat (↑k : Int)))), .int .i64 (RW.per (g (Int.toNat (↑k : Int))))])) (.agg [.str ([]), .str ([]), .int .i64 0, .int .i64 0, .int .i64 0])) 0)), .str (strOf (cellA (Option.getD (mget (entC (sumsF g k)) (.agg [.str (RW.o (g (Int.toNat (↑k : Int)))), .str (RW.p (g (Int.toNat (↑k : Int)))), .int .i64 (RW.per (g (Int.toNat (↑k : Int))))])) (.agg [.str ([]), .str ([]), .int .i64 0, .int .i64 0, .int .i64 0])) (0 + 1))), .int .i64 (intOf (cellA (Option.getD (mget (entC (sumsF g k)) (.agg [.str (RW.o (g (Int.toNat (↑k : Int)))), .str (RW.p (g (Int.toNat (↑k : Int)))), .int .i64 (RW.per (g (Int.toNat (↑k : Int))))])) (.agg [.str ([]), .str ([]), .int .i64 0, .int .i64 0, .int .i64 0])) (0 + 1 + 1))), .int .i64 (intOf (cellA (Option.getD (mget (entC (sumsF g k)) (.agg [.str (RW.o (g (Int.toNat (↑k : Int)))), .str (RW.p (g (Int.toNat (↑k : Int)))), .int .i64 (RW.per (g (Int.toNat (↑k : Int))))])) (.agg [.str ([]), .str ([]), .int .i64 0, .int .i64 0, .int .i64 0])) (0 + 1 + 1 + 1))), .int .i64 (intOf (cellA (Option.getD (mget (entC (sumsF g k)) (.agg [.str (RW.o (g (Int.toNat (↑k : Int)))), .str (RW.p (g (Int.toNat (↑k : Int)))), .int .i64 (RW.per (g (Int.toNat (↑k : Int))))])) (.agg [.str ([]), .str ([]), .int .i64 0, .int .i64 0, .int .i64 0])) (0 + 1 + 1 + 1 + 1)))] = Option.getD (mget (entC (sumsF g k)) (.agg [.str (RW.o (g (Int.toNat (↑k : Int)))), .str (RW.p (g (Int.toNat (↑k : Int)))), .int .i64 (RW.per (g (Int.toNat (↑k : Int))))])) (.agg [.str ([]), .str ([]), .int .i64 0, .int .i64 0, .int .i64 0])) ∧ inR .i64 (RW.tv (g (Int.toNat (↑k : Int))) + intOf (cellA (Option.getD (mget (entC (sumsF g k)) (.agg [.str (RW.o (g (Int.toNat (↑k : Int)))), .str (RW.p (g (Int.toNat (↑k : Int)))), .int .i64 (RW.per (g (Int.toNat (↑k : Int))))])) (.agg [.str ([]), .str ([]), .int .i64 0, .int .i64 0, .int .i64 0])) (0 + 1 + 1 + 1 + 1))) ∧ KeysA (Env.te (Env.mk te [] [] 0 64 0)) 84 (entC (sumsF g k)) ∧ inR .i64 ((↑k : Int) + (1 : Int)) ∧ ∃ (i' : Nat), some (St.mk [(5, .map 0), (18, .view 5 n (rwRow g)), (19, .int .i64 (↑n : Int)), (20, .int .i64 ((↑k : Int) + (1 : Int)))] [(0, .amap (List.map (fun (p : AV × AV) => (AV.rn (ren 0 [(0, 0)]) (Prod.fst p), AV.rn (ren 0 [(0, 0)]) (Prod.snd p))) (mset (entC (sumsF g k)) (.agg [.str (RW.o (g (Int.toNat (↑k : Int)))), .str (RW.p (g (Int.toNat (↑k : Int)))), .int .i64 (RW.per (g (Int.toNat (↑k : Int))))]) (.agg [.str (RW.o (g (Int.toNat (↑k : Int)))), .str (RW.p (g (Int.toNat (↑k : Int)))), .int .i64 (RW.per (g (Int.toNat (↑k : Int)))), .int .i64 (RW.u (g (Int.toNat (↑k : Int))) + intOf (cellA (Option.getD (mget (entC (sumsF g k)) (.agg [.str (RW.o (g (Int.toNat (↑k : Int)))), .str (RW.p (g (Int.toNat (↑k : Int)))), .int .i64 (RW.per (g (Int.toNat (↑k : Int))))])) (.agg [.str ([]), .str ([]), .int .i64 0, .int .i64 0, .int .i64 0])) (0 + 1 + 1 + 1))), .int .i64 (RW.tv (g (Int.toNat (↑k : Int))) + intOf (cellA (Option.getD (mget (entC (sumsF g k)) (.agg [.str (RW.o (g (Int.toNat (↑k : Int)))), .str (RW.p (g (Int.toNat (↑k : Int)))), .int .i64 (RW.per (g (Int.toNat (↑k : Int))))])) (.agg [.str ([]), .str ([]), .int .i64 0, .int .i64 0, .int .i64 0])) (0 + 1 + 1 + 1 + 1)))]))))] 1 []) = some (St.mk [(5, .map 0), (18, .view 5 n (rwRow g)), (19, .int .i64 (↑n : Int)), (20, .int .i64 (↑i' : Int))] [(0, .amap (entC (sumsF g i')))] 1 []) ∧ P i') (R (.exit 0) (St.mk [(5, .map 0)] [(0, .amap (List.map (fun (p : AV × AV) => (AV.rn (ren 0 [(0, 0)]) (Prod.fst p), AV.rn (ren 0 [(0, 0)]) (Prod.snd p))) (entC (sumsF g k))))] 1 []))) := by kernel_rfl
theorem nf_cr_round (L : List RW) (i : IT) (P : IT → Prop) (R : Exit → St → Prop) : roundP ⟨te, [], [], 0, 64, 0⟩ (loopB Tryz.f17 15) [9, 52] [9] [] (S_cr L) P R (S_cr L i) = (List.length (entC L) = List.length (entC L) ∧ (IT.left i = [] → (∀ (i_1 : Nat), i_1 < IT.c i → true = true) ∧ ∃ (O' : List (Nat × AObj)), RowsEq [(0, .row 39 5 (IT.c i) (rwRow (IT.h i)) false)] O' ∧ R (.exit 2) (St.mk [(9, .own 0 (IT.c i))] O' 1 [])) ∧ ∀ (i_1 : Nat), i_1 ∈ IT.left i → (List.length (entC L) = List.length (entC L) ∧ i_1 < List.length (entC L) ∧ .agg [.str (strOf (cellA (Prod.fst (List.getD (entC L) i_1 (.any, .any))) 0)), .str (strOf (cellA (Prod.fst (List.getD (entC L) i_1 (.any, .any))) (0 + 1))), .int .i64 (intOf (cellA (Prod.fst (List.getD (entC L) i_1 (.any, .any))) (0 + 1 + 1)))] = Prod.fst (List.getD (entC L) i_1 (.any, .any)) ∧ .agg [.str (strOf (cellA (Prod.snd (List.getD (entC L) i_1 (.any, .any))) 0)), .str (strOf (cellA (Prod.snd (List.getD (entC L) i_1 (.any, .any))) (0 + 1))), .int .i64 (intOf (cellA (Prod.snd (List.getD (entC L) i_1 (.any, .any))) (0 + 1 + 1))), .int .i64 (intOf (cellA (Prod.snd (List.getD (entC L) i_1 (.any, .any))) (0 + 1 + 1 + 1))), .int .i64 (intOf (cellA (Prod.snd (List.getD (entC L) i_1 (.any, .any))) (0 + 1 + 1 + 1 + 1)))] = Prod.snd (List.getD (entC L) i_1 (.any, .any))) ∧ (5 ≤ 16777216 ∧ 5 = 5 ∧ 1 ≤ 9223372036854775807) ∧ ((1 ≤ 1 ∧ 5 = 5) ∧ IT.c i ≤ IT.c i ∧ 5 = 5 ∧ 39 = 39 ∧ 5 = 5 ∧ IT.c i + 1 ≤ 9223372036854775807 ∧ (IT.c i + 1) * TI.bytes (TI.mk (TypeDesc.struct #[Field.mk "Outlet" (9 : TypeId) 0 false "" "" 0, Field.mk "Product" (9 : TypeId) 1 false "" "" 16, Field.mk "Period" (3 : TypeId) 2 false "" "" 32, Field.mk "Units" (2 : TypeId) 3 false "" "" 40, Field.mk "Turnover" (2 : TypeId) 4 false "" "" 48]) 5 56 (Value.agg #[Value.string (ByteArray.mk #[]), Value.string (ByteArray.mk #[]), Value.int IntKind.i64 0, Value.int IntKind.i64 0, Value.int IntKind.i64 0]) true) ≤ 140737488355328) ∧ ∃ (i' : IT), (TEq [(9, .own 0 (IT.c i + 1)), (52, .ptr 1 0)] [(9, .own 0 (IT.c i')), (52, .ptr 1 0)] ∧ RowsEq [(0, .row 39 5 (IT.c i + 1) (apF (IT.c i) (rwRow (IT.h i)) (chunkA (TI.sz (TI.mk (TypeDesc.struct #[Field.mk "Outlet" (9 : TypeId) 0 false "" "" 0, Field.mk "Product" (9 : TypeId) 1 false "" "" 16, Field.mk "Period" (3 : TypeId) 2 false "" "" 32, Field.mk "Units" (2 : TypeId) 3 false "" "" 40, Field.mk "Turnover" (2 : TypeId) 4 false "" "" 48]) 5 56 (Value.agg #[Value.string (ByteArray.mk #[]), Value.string (ByteArray.mk #[]), Value.int IntKind.i64 0, Value.int IntKind.i64 0, Value.int IntKind.i64 0]) true)) (.str (strOf (cellA (Prod.snd (List.getD (entC L) i_1 (.any, .any))) 0)) :: .str (strOf (cellA (Prod.snd (List.getD (entC L) i_1 (.any, .any))) (0 + 1))) :: .int .i64 (intOf (cellA (Prod.snd (List.getD (entC L) i_1 (.any, .any))) (0 + 1 + 1))) :: .int .i64 (intOf (cellA (Prod.snd (List.getD (entC L) i_1 (.any, .any))) (0 + 1 + 1 + 1))) :: .int .i64 (intOf (cellA (Prod.snd (List.getD (entC L) i_1 (.any, .any))) (0 + 1 + 1 + 1 + 1))) :: List.append [] (List.flatten (List.replicate (nat_lit 0) [.str ([]), .str ([]), .int .i64 0, .int .i64 0, .int .i64 0]))))) false), (1, .miter 2 (List.length (entC L)) (82 :: i_1 :: List.erase (IT.left i) i_1)), (2, .amap (List.map (fun (p : AV × AV) => (AV.rn (ren 0 [(22, 0), (1, 1), (2, 2)]) (Prod.fst p), AV.rn (ren 0 [(22, 0), (1, 1), (2, 2)]) (Prod.snd p))) (entC L)))] [(0, .row 39 5 (IT.c i') (rwRow (IT.h i')) false), (1, .miter 2 (List.length (entC L)) (82 :: IT.c0 i' :: IT.left i')), (2, .amap (entC L))]) ∧ P i') := by kernel_rfl

def keyV (r : RW) : AV := .agg [.str r.o, .str r.p, .int .i64 r.per]
def valV (r : RW) : AV := .agg [.str r.o, .str r.p, .int .i64 r.per, .int .i64 r.u, .int .i64 r.tv]
theorem keq_key (a b : RW) : keq (keyV a) (keyV b) = sameK a b := by simp [keyV, keq, keqL, keq0, sameK, Bool.and_assoc]
theorem mget_entC (x : RW) : ∀ L : List RW, mget (entC L) (keyV x) = (getK L x).map valV
  | [] => rfl
  | r :: L => by
    rw [getK]
    show (match keq (keyV r) (keyV x) with | true => some (valV r) | false => mget (entC L) (keyV x)) = _
    rw [keq_key, mget_entC x L]
    cases sameK r x <;> rfl
theorem mset_entC (y : RW) : ∀ L : List RW, mset (entC L) (keyV y) (valV y) = entC (setK L y)
  | [] => rfl
  | r :: L => by
    rw [setK]
    show (match keq (keyV r) (keyV y) with | true => (keyV y, valV y) :: entC L | false => (keyV r, valV r) :: mset (entC L) (keyV y) (valV y)) = _
    rw [keq_key, mset_entC y L]
    cases sameK r y <;> rfl
theorem entC_rn (σ : Nat → Option Nat) (L : List RW) : (entC L).map (fun p => (AV.rn σ p.1, AV.rn σ p.2)) = entC L := by
  unfold entC
  rw [List.map_map]
  rfl
theorem entC_len (L : List RW) : (entC L).length = L.length := by simp [entC]
theorem entC_at {L : List RW} {i : Nat} (h : i < L.length) : (entC L).getD i (.any, .any) = (keyV (atR L i), valV (atR L i)) := by
  simp [entC, atR, h, keyV, valV]
theorem keyV_inj {a b : RW} (h : keyV a = keyV b) : sameK a b = true := by
  have := keq_key a b
  rw [← this, h, keq_key]; exact sameK_self b
theorem keyA_slot (a b : List UInt8) (c : Int) : keyA te 84 (.agg [.str a, .str b, .int .i64 c]) = true := by kernel_rfl
theorem entC_keys {L : List RW} (h : L.Pairwise fun a b => sameK a b = false) : KeysA te 84 (entC L) := by
  refine ⟨List.all_eq_true.2 fun p hp => ?_, ?_⟩
  · obtain ⟨r, _, rfl⟩ := List.mem_map.1 hp
    exact keyA_slot _ _ _
  · unfold entC
    rw [List.map_map]
    refine List.pairwise_map.2 (h.imp fun {a b} hab he => ?_)
    rw [keyV_inj (a := a) (b := b) he] at hab; cases hab

def zeroRW : RW := ⟨[], [], 0, 0, 0⟩
theorem mget_at (L : List RW) (x : RW) : (mget (entC L) (keyV x)).getD (valV zeroRW) = valV ((getK L x).getD zeroRW) := by
  rw [mget_entC]; cases getK L x <;> rfl
theorem addK_eq (L : List RW) (x : RW) : addK L x = ⟨x.o, x.p, x.per, x.u + ((getK L x).getD zeroRW).u, x.tv + ((getK L x).getD zeroRW).tv⟩ := by
  unfold addK; cases getK L x <;> rfl
theorem rowF_bounds {r : RW} (h : rowF r = true) : 1 ≤ r.u ∧ r.u ≤ 1099511627776 ∧ 1 ≤ r.tv ∧ r.tv ≤ 1099511627776 := by
  unfold rowF at h
  simp only [Bool.and_eq_true, decide_eq_true_eq] at h
  omega
theorem allRows_at {g : Nat → RW} : ∀ {n : Nat}, allRows g n = true → ∀ i, i < n → rowF (g i) = true
  | 0, _, i, hi => absurd hi (Nat.not_lt_zero i)
  | n + 1, h, i, hi => by
    rw [allRows, Bool.and_eq_true] at h
    by_cases e : i = n
    · rw [e]; exact h.2
    · exact allRows_at h.1 i (by omega)
theorem svF_zero {g : Nat → RW} {n : Nat} (h : svF g n = 0) : n ≤ 24000 ∧ ∀ i, i < n → rowF (g i) = true := by
  unfold svF at h
  by_cases q : 24000 < n
  · rw [decide_eq_true q] at h; cases h
  · rw [decide_eq_false q] at h
    refine ⟨by omega, ?_⟩
    cases q2 : allRows g n with
    | false => rw [q2] at h; cases h
    | true => exact allRows_at q2
/-- A slot's sums so far. -/
theorem got_bounds {g : Nat → RW} {k : Nat} (hk : k ≤ 24000) (hr : ∀ i, i < k → rowF (g i) = true) (x : RW) :
    0 ≤ ((getK (sumsF g k) x).getD zeroRW).u ∧ ((getK (sumsF g k) x).getD zeroRW).u ≤ 26388279066624000 ∧ 0 ≤ ((getK (sumsF g k) x).getD zeroRW).tv ∧ ((getK (sumsF g k) x).getD zeroRW).tv ≤ 26388279066624000 := by
  obtain ⟨g1, g2⟩ := (sumsF_ok g k).got x
  have hall : ∀ r ∈ (List.range k).map g, rowF r = true := fun r h => by
    obtain ⟨i, hi, rfl⟩ := List.mem_map.1 h
    exact hr i (List.mem_range.1 hi)
  have b1 := sumU_le (B := 1099511627776) (by omega) x (l := (List.range k).map g) fun r h => by have := rowF_bounds (hall r h); omega
  have b2 := sumT_le (B := 1099511627776) (by omega) x (l := (List.range k).map g) fun r h => by have := rowF_bounds (hall r h); omega
  rw [List.length_map, List.length_range] at b1 b2
  have e1 : ((getK (sumsF g k) x).getD zeroRW).u = ((getK (sumsF g k) x).map RW.u).getD 0 := by cases getK (sumsF g k) x <;> rfl
  have e2 : ((getK (sumsF g k) x).getD zeroRW).tv = ((getK (sumsF g k) x).map RW.tv).getD 0 := by cases getK (sumsF g k) x <;> rfl
  rw [e1, e2, g1, g2]
  omega
theorem sumsF_len (g : Nat → RW) : ∀ k, (sumsF g k).length ≤ k
  | 0 => Nat.le_refl _
  | k + 1 => by
    have h : ∀ (l : List RW) (x : RW), (setK l x).length ≤ l.length + 1 := fun l x => by
      induction l with
      | nil => simp [setK]
      | cons r l ih => rw [setK]; cases sameK r x <;> simp [ih]
    have := sumsF_len g k
    have := h (sumsF g k) (addK (sumsF g k) (g k))
    rw [sumsF]; omega

theorem cb_loop (hP : C.P = Tryz.prog) (g : Nat → RW) (n : Nat) : LoopOK C 0 64 (loopC Tryz.f17 6) (L_cb g n) := by
  have _ : C.Loose := inferInstance
  rintro st Q ⟨h0, hn, hr, hQ⟩
  refine LoopOK.mk (prg hP) [] 0 .nil [5, 18, 19, 20] [5] [] (S_cb g n) (fun k => k ≤ n) (fun k => n - k) 0 (Nat.zero_le _) h0 (fun k hk => ?_)
  rw [nf_cb_round, Int.toNat_natCast]
  refine condP_dec (fun h1 => ?_) (fun h1 => ?_)
  · have hm : Option.getD (mget (entC (sumsF g k)) (.agg [.str (g k).o, .str (g k).p, .int .i64 (g k).per])) (.agg [.str [], .str [], .int .i64 0, .int .i64 0, .int .i64 0]) = valV ((getK (sumsF g k) (g k)).getD zeroRW) := mget_at _ (g k)
    have hb := got_bounds (g := g) (k := k) (by omega) (fun i hi => hr i (by omega)) (g k)
    have hb2 := rowF_bounds (hr k (by omega))
    have ha := addK_eq (sumsF g k) (g k)
    have hset := mset_entC (addK (sumsF g k) (g k)) (sumsF g k)
    have hkeys : KeysA (Env.te (Env.mk te [] [] 0 64 0)) 84 (entC (sumsF g k)) := entC_keys (sumsF_ok g k).parts
    rw [hm]
    rw [ha] at hset
    generalize hS : entC (sumsF g k) = ES at *
    generalize ((getK (sumsF g k) (g k)).getD zeroRW) = e at *
    refine ⟨⟨by omega, by omega, rfl⟩, ⟨hkeys, rfl⟩, ?_, ⟨hkeys, rfl⟩, ?_, hkeys, by simp only [inR]; omega, k + 1, ?_, by omega, by omega⟩
    · show inR .i64 ((g k).u + e.u)
      simp only [inR]; omega
    · show inR .i64 ((g k).tv + e.tv)
      simp only [inR]; omega
    · have e2 : entC (sumsF g (k + 1)) = mset ES (keyV ⟨(g k).o, (g k).p, (g k).per, (g k).u + e.u, (g k).tv + e.tv⟩) (valV ⟨(g k).o, (g k).p, (g k).per, (g k).u + e.u, (g k).tv + e.tv⟩) := by
        rw [sumsF, ha, hset]
      have e3 := entC_rn (ren 0 [(0, 0)]) (sumsF g (k + 1))
      rw [e2] at e3 ⊢
      exact congrArg (fun x => some (St.mk [(5, .map 0), (18, .view 5 n (rwRow g)), (19, .int .i64 (n : Int)), (20, .int .i64 ((k : Int) + 1))] [(0, .amap x)] 1 [])) e3
  · have : k = n := by omega
    subst this
    have e3 := entC_rn (ren 0 [(0, 0)]) (sumsF g k)
    rw [e3]
    exact hQ

theorem lst_snoc {α : Type} (g : Nat → α) (n : Nat) : lst g (n + 1) = lst g n ++ [g n] := by simp [lst, List.range_succ]
theorem cr_loop (hP : C.P = Tryz.prog) (L : List RW) : LoopOK C 0 64 (loopC Tryz.f17 15) (L_cr L) := by
  have _ : C.Loose := inferInstance
  rintro st Q ⟨h0, hn, hQ⟩
  refine AWP.ownNil 9 39 5 ?_
  refine LoopOK.mk (prg hP) [] 0 .nil [9, 52] [9] [] (S_cr L) (fun i => (lst i.h i.c ++ i.left.map (atR L)).Perm L ∧ ∀ x ∈ i.left, x < L.length) (fun i => i.left.length) ⟨0, fun _ => default, (entC L).length, List.range (entC L).length⟩ ⟨?_, ?_⟩ h0 (fun i hi => ?_) (fun i => ⟨fun _ _ => rfl, trivial⟩)
  · rw [entC_len]
    show ((List.range L.length).map (atR L)).Perm L
    have : (List.range L.length).map (atR L) = L := by
      apply List.ext_getElem
      · simp
      · intro i h1 h2
        simp [atR, h2]
    rw [this]
  · intro x hx
    have hx : x ∈ List.range (entC L).length := hx
    rw [entC_len] at hx
    exact List.mem_range.1 hx
  obtain ⟨hp, hlt⟩ := hi
  have hlen : i.c + i.left.length = L.length := by
    have := hp.length_eq
    simpa [lst] using this
  rw [nf_cr_round]
  refine ⟨rfl, fun hnil => ⟨fun _ _ => rfl, _, rowsEqR _, ?_⟩, fun j hj => ?_⟩
  · rw [hnil] at hp hlen
    have hc : i.c = L.length := by simpa using hlen
    rw [hc] at hp ⊢
    exact hQ i.h (by simpa using hp)
  · have hjl := hlt j hj
    rw [entC_at hjl, entC_rn, entC_len]
    have herase : (i.left.erase j).length + 1 = i.left.length := by
      rw [List.length_erase_of_mem hj]
      have := List.length_pos_of_mem hj
      omega
    refine ⟨⟨rfl, hjl, rfl, rfl⟩, ⟨by omega, rfl, by omega⟩, ⟨⟨Nat.le_refl _, rfl⟩, Nat.le_refl _, rfl, rfl, rfl, by omega, ?_⟩, ⟨i.c + 1, fun k => if k < i.c then i.h k else atR L j, j, i.left.erase j⟩, ⟨rfl, ⟨rfl, rfl, rfl, rfl, rfl, fun k hk => ?_⟩, ?_, rfl, trivial⟩, ⟨?_, fun x hx => hlt x (List.mem_of_mem_erase hx)⟩, ?_⟩
    · show (i.c + 1) * 56 ≤ _
      omega
    · have hk : k < i.c + 1 := hk
      unfold apF rwRow
      by_cases h : k < i.c
      · simp only [h, if_true]
      · have : k = i.c := by omega
        subst this
        simp only [Nat.lt_irrefl, if_false, Nat.sub_self]
        rfl
    · rfl
    · show (lst (fun k => if k < i.c then i.h k else atR L j) (i.c + 1) ++ (i.left.erase j).map (atR L)).Perm L
      rw [lst_snoc]
      have e1 : lst (fun k => if k < i.c then i.h k else atR L j) i.c = lst i.h i.c := List.map_congr_left fun k hk => by
        rw [if_pos (List.mem_range.1 hk)]
      rw [e1, if_neg (Nat.lt_irrefl _), List.append_assoc, List.singleton_append, ← List.map_cons]
      exact ((List.perm_cons_erase hj).map (atR L)).symm.append_left _ |>.trans hp
    · show (i.left.erase j).length < i.left.length
      omega

theorem lst_atR (L : List RW) : lst (atR L) L.length = L := by
  apply List.ext_getElem
  · simp [lst]
  · intro i h1 h2
    simp [lst, atR, h2]
theorem lst_at {α : Type} {g : Nat → α} {L : List α} {n : Nat} (h : lst g n = L) (d : α) : n = L.length ∧ ∀ i, i < n → g i = L.getD i d := by
  subst h
  refine ⟨by simp [lst], fun i hi => ?_⟩
  simp [lst, hi]

theorem srtR_perm {l l' : List RW} (h : l.Perm l') (hp : l'.Pairwise fun a b => sameK a b = false) : srtR l = srtR l' := by
  have hk' : l'.Pairwise fun a b => keyC a b ≠ 0 := hp.imp fun {a b} h q => by rw [keyC_zero.1 q] at h; cases h
  have hk : l.Pairwise fun a b => keyC a b ≠ 0 := (h.symm.pairwise_iff (fun {a b} h q => h (keyC_preC.eq_symm q))).1 hk'
  obtain ⟨a1, a2⟩ := srt_asc keyC_preC hk
  obtain ⟨b1, b2⟩ := srt_asc keyC_preC hk'
  exact Asc.uniq keyC_preC a1 b1 fun x => (a2.mem_iff.trans h.mem_iff).trans b2.mem_iff.symm
theorem comb_ok (hP : C.P = Tryz.prog) (hL : ∀ w, C.laid w → LaidW w) : SpecOK C 17 S_comb := by
  rintro args objs U Os vc h hvc
  unfold S_comb at h
  split at h <;> simp only [Option.some.injEq, Prod.mk.injEq, reduceCtorEq] at h
  rename_i n f
  obtain ⟨rfl, rfl, rfl⟩ := h
  obtain ⟨hn, hf, hs⟩ := hvc
  generalize rwOf f = g at *
  subst hf
  refine ACalls.nilv 5 (rwRow (atR [])) (ACalls.frzO 0 ?_)
  refine RSpecOK.wpL (prg hP) [(19, .det S_sval), (52, .rel R_sortR)] [(6, L_cb g n), (15, L_cr (sumsF g n))] 0 (.cons (sval_ok hP hL) (.cons (sortR_ok hP) .nil)) (hP ▸ Tryz.func17) rfl rfl rfl
    [(loopC Tryz.f17 6, L_cb g n), (loopC Tryz.f17 15, L_cr (sumsF g n))] (by kernel_rfl) ⟨cb_loop hP g n, cr_loop hP _, trivial⟩ ?_
  rw [nf_comb]
  have hg : rwOf (rwRow g) = g := rfl
  rw [hg, entC_rn, entC_len]
  refine ⟨⟨hn, rfl, hs⟩, condP_ndec (fun q => ?_) (fun q => ?_)⟩
  · have hc : combL g n = [] := by unfold combL; rw [decide_eq_false q]; rfl
    rw [hc]
    exact ⟨rfl, rfl⟩
  · obtain ⟨q1, q2⟩ := svF_zero q
    have hc : combL g n = srtR (sumsF g n) := by unfold combL; rw [decide_eq_true q]; rfl
    have hl := sumsF_len g n
    rw [hc, q]
    have hparts := (sumsF_ok g n).parts
    refine ⟨rfl, q1, q2, ⟨rfl, ⟨rfl, rfl, rfl, rfl, rfl, fun i hi => absurd hi (Nat.not_lt_zero i)⟩, rfl, rfl, trivial⟩, by omega, fun h hp => ⟨fun _ _ => rfl, rfl, rfl, rfl, by omega, rfl, ?_, fun h' hh => ⟨fun _ _ => rfl, fun _ _ => rfl, [(0, .row 39 5 (sumsF g n).length (rwRow (atR (srtR (sumsF g n)))) false)], ⟨⟨rfl, rfl, rfl, rfl, rfl, fun i hi => ?_⟩, trivial⟩, ?_⟩⟩⟩
    · exact (hp.symm.pairwise_iff (fun {a b} h => by
        cases q : sameK b a with
        | false => rfl
        | true => rw [sameK_symm q] at h; cases h)).1 hparts
    · have e := srtR_perm hp hparts
      have hh : lst h' (sumsF g n).length = srtR (lst h (sumsF g n).length) := hh
      rw [e] at hh
      have := (lst_at hh default).2 i hi
      unfold rwRow
      rw [this]; rfl
    · have e : (srtR (sumsF g n)).length = (sumsF g n).length := (List.mergeSort_perm _ _).length_eq
      rw [e]
      refine ⟨fun _ _ => rfl, ?_⟩
      have hb : Nat.ble (sumsF g n).length (sumsF g n).length = true := Nat.ble_eq_true_of_le (Nat.le_refl _)
      constructor
      · simp [nilvC, nilvA, frzC, frzA, frz, hb, nilv]
      · rfl
end Go.Eng
/- Rows of lists: elements put in, and put behind. -/
namespace Go.Eng

/-- The row of a list with an element put in at p. -/
theorem insRow {α : Type} [Inhabited α] (enc : α → List AV) (L : List α) (x : α) (p : Nat) (hp : p ≤ L.length) (e0 ch : Nat → List AV) (hch : ch 0 = enc x) (j : Nat) (hj : j < 0 + p + 1 + (L.length - p)) :
    apF (0 + p + 1) (apF (0 + p) (apF 0 e0 (fun i => enc (L.getD i default))) ch) (fun i => enc (L.getD (p + i) default)) j = enc ((L.take p ++ x :: L.drop p).getD j default) := by
  unfold apF
  have hlt : (L.take p).length = p := by simp [hp]
  by_cases h1 : j < p
  · rw [if_pos (by omega), if_pos (by omega), if_neg (by omega)]
    show enc _ = enc _
    congr 1
    rw [List.getD_eq_getElem?_getD, List.getD_eq_getElem?_getD, List.getElem?_append_left (by omega), List.getElem?_take, if_pos h1]
    rfl
  · by_cases h2 : j = p
    · subst h2
      rw [if_pos (by omega), if_neg (by omega), Nat.zero_add, Nat.sub_self, hch]
      show enc _ = enc _
      congr 1
      rw [List.getD_eq_getElem?_getD, List.getElem?_append_right (by omega), hlt, Nat.sub_self]
      rfl
    · rw [if_neg (by omega)]
      show enc _ = enc _
      congr 1
      rw [List.getD_eq_getElem?_getD, List.getD_eq_getElem?_getD, List.getElem?_append_right (by omega), hlt]
      obtain ⟨q, rfl⟩ : ∃ q, j = p + 1 + q := ⟨j - (p + 1), by omega⟩
      rw [show p + 1 + q - p = q + 1 by omega, List.getElem?_cons_succ, List.getElem?_drop, show p + 1 + q - (0 + p + 1) = q by omega]
/-- .. put behind. -/
theorem putRow {α : Type} [Inhabited α] (enc : α → List AV) (L : List α) (x : α) (ch : Nat → List AV) (hch : ch 0 = enc x) (j : Nat) (hj : j < L.length + 1) :
    apF L.length (fun i => enc (L.getD i default)) ch j = enc ((L ++ [x]).getD j default) := by
  unfold apF
  by_cases h1 : j < L.length
  · rw [if_pos h1]
    show enc _ = enc _
    congr 1
    rw [List.getD_eq_getElem?_getD, List.getD_eq_getElem?_getD, List.getElem?_append_left h1]
  · have : j = L.length := by omega
    subst this
    rw [if_neg h1, Nat.sub_self, hch]
    show enc _ = enc _
    congr 1
    simp
end Go.Eng
/- A loop whose inner loops' specifications depend on the state of the round. -/
namespace Go.Eng

theorem LoopOK.mkI {C : Ctx} {te : TE} (hte : Prg C te) {m N : Nat} {x : Code} {s : St} {Q : Exit → St → Prop} (calls : List (Nat × CSpec)) {ι : Type} (loops : ι → List (Nat × LSpec)) (fuel : Nat) (hc : CallsOK C calls) (ls : ι → List (Code × LSpec)) (hls : ∀ i, loopsOf (loops i) x = ls i) (hL : ∀ i, LoopsOK C m N (ls i))
    (F Fe Fr : List Nat) (S : ι → St) (I : ι → Prop) (μ : ι → Nat) (i0 : ι) (hI : I i0)
    (h0 : canonIs te m F s (S i0)) (round : ∀ i, I i → roundP ⟨te, calls, loops i, m, N, fuel⟩ x F Fe Fr S (fun i' => I i' ∧ μ i' < μ i) Q (S i)) (hS : ∀ i, rowVC (S i).O True := by intro i; trivial) : AWP C m N (.loop x) Q s := by
  obtain ⟨ρ0, hw⟩ := canonIs_weak h0 (rowVC_elim (hS i0)).1
  have key : AWP C m N (.loop x) (Eng.canQ te m Fe Fr Q) s := by
    refine AWP.loop S I μ i0 hI hw fun i hi => ?_
    have hG : EnvOK C ⟨te, calls, loops i, m, N, fuel⟩ := ⟨hte.ok, hte.one, hc⟩
    refine (wpC_ok hG x _ _ (by rw [hls i]; exact (hL i).all) (round i hi)).mono fun e s hq => thenA_mono (fun s hs => ?_) e s hq
    obtain ⟨i', h3, h1, h2⟩ := hs
    obtain ⟨ρ, hw'⟩ := canonIs_weak h3 (rowVC_elim (hS i')).1
    exact ⟨i', ρ, h1, h2, hw'⟩
  exact key.canQ

end Go.Eng
