/- Rows of a scanner: what Validate answers; rows of a tape. -/
import Derived.Test.YtokpcnppihgdlaaGreatDoorPp
import Derived.Test.YtokpcnppihgdlaaGreatDoorPq
import Derived.Test.YtokpcnppihgdlaaGreatDoorPr
import Derived.Test.YtokpcnppihgdlaaGreatDoorPs
import Derived.Test.YtokpcnppihgdlaaGreatDoorPn
namespace Go.Eng
open Go.Proofs Go.RowKit
variable {C : Ctx} [C.Loose]
set_option maxRecDepth 20000
theorem nf_mrg (g : Nat → MG) (n : Nat) (h : Nat → MG) (m : Nat) (R : AV → List (Nat × AObj) → Prop) : wpFn te [(72, .rel R_concat), (33, .det S_msg), (73, .rel R_sortM), (75, .rel R_cmpct)] [(3, L_mg (catG (nn2 n m) (gg2 g h) 2) (sumN (nn2 n m) 2))] 0 Tryz.f38 [.view 15 n (mgRow g), .view 15 m (mgRow h)] [] R = (letI z3 := (List.flatten (List.replicate (nat_lit 0) [.nil]) : List AV); letI z2 := catG (nn2 n m) (gg2 g h) 2; letI z1 := (TI.sz (TI.mk (TypeDesc.slice (56 : TypeId)) 1 24 (Value.slice none 0 0) false)); letI z0 := flL z2 (sumN (nn2 n m) 2); (2 ≤ 16777216 ∧ 1 = 1 ∧ 2 ≤ 9223372036854775807) ∧ (∀ (i : Nat), i < 2 → nrefL (chunkA z1 (.view 15 n (mgRow g) :: .view 15 m (mgRow h) :: List.append [] z3) i) = true) ∧ ∃ (nn : Nat → Nat), ∃ (gg : Nat → Nat → MG), 58 = 58 ∧ false = false ∧ 2 = 2 ∧ 2 ≤ 1000 ∧ (∀ (i : Nat), i < 2 → [AV.view 15 (nn i) (mgRow (gg i))] = chunkA z1 (.view 15 n (mgRow g) :: .view 15 m (mgRow h) :: List.append [] z3) i) ∧ sumN nn 2 ≤ 1000000 ∧ (∀ (i : Nat), i < 2 → true = true) ∧ (TEq [(5, .own 0 0), (11, .view 15 (sumN nn 2) (mgRow (catG nn gg 2))), (12, .int .i64 (↑(sumN nn 2) : Int)), (13, .int .i64 0)] [(5, .own 0 0), (11, .view 15 (sumN (nn2 n m) 2) (mgRow z2)), (12, .int .i64 (↑(sumN (nn2 n m) 2) : Int)), (13, .int .i64 (↑0 : Int))] ∧ RowsEq [(0, .row 56 15 0 (fun (_x : Nat) => []) false)] [(0, .row 56 15 0 (mgRow (atM (flL z2 0))) false)]) ∧ sumN (nn2 n m) 2 ≤ 200000 ∧ (∀ (i : Nat), i < sumN (nn2 n m) 2 → MG.Sm (catG (nn2 n m) (gg2 g h) 2 i)) ∧ (∀ (i : Nat), i < List.length z0 → true = true) ∧ 56 = 56 ∧ false = false ∧ List.length z0 = List.length z0 ∧ List.length z0 ≤ 1000000 ∧ mgRow (atM z0) = mgRow (mgOf (mgRow (atM z0))) ∧ ∀ (h_1 : Nat → MG), List.Perm (lst h_1 (List.length z0)) (lst (mgOf (mgRow (atM z0))) (List.length z0)) → (∀ (i j : Nat), i < j → j < List.length z0 → ¬ordM (h_1 j) (h_1 i) < (0 : Int)) → (∀ (i : Nat), i < List.length z0 → true = true) ∧ (∀ (i : Nat), i < List.length z0 → true = true) ∧ 56 = 56 ∧ false = false ∧ List.length z0 = List.length z0 ∧ List.length z0 ≤ 1000000 ∧ mgRow h_1 = mgRow (mgOf (mgRow h_1)) ∧ ∀ (k : Nat) (h_2 : Nat → MG), lst h_2 k = ddL (mgOf (mgRow h_1)) (List.length z0) → (∀ (i : Nat), i < k → true = true) ∧ (∀ (i : Nat), i < k → true = true) ∧ ∃ (O' : List (Nat × AObj)), RowsEq [(0, .row 56 15 k (mgRow h_2) false)] O' ∧ R (.own 0 k) O') := by kernel_rfl
def shrt1 : List AV := (List.flatten (List.replicate (nat_lit 0) [.str ([]), .int .i64 0, .int .i64 0, .str ([]), .str ([]), .int .i64 0, .int .i64 0, .int .i64 0, .int .i64 0, .str ([]), .str ([]), .str ([]), .int .i64 0, .str ([]), .int .i64 0]))
theorem nf_mg_round (g : Nat → MG) (n k : Nat) (P : Nat → Prop) (R : Exit → St → Prop) : roundP ⟨te, [(33, .det S_msg)], [], 0, 29, 0⟩ (loopB Tryz.f38 3) [5, 11, 12, 13] [5] [] (S_mg g n) P R (S_mg g n k) = (letI z2 := List.length (flL g k) + 1; letI z1 := List.length (flL g k); letI z3 := ([(0, .row 56 15 z1 (mgRow (atM (flL g k))) false)] : List (Nat × AObj)); letI z0 := (g (Int.toNat (↑k : Int))); condP (decide ((↑k : Int) < (↑n : Int))) (((0 : Int) ≤ (↑k : Int) ∧ (↑k : Int) < (↑n : Int) ∧ 15 = 15) ∧ (List.length (MG.dev z0) < 4294967281 ∧ List.length (VT.o (MG.v z0)) < 4294967281 ∧ List.length (DT.o (MG.d z0)) < 4294967281 ∧ List.length (DT.dev (MG.d z0)) < 4294967281) ∧ condP (decide (msgF (MG.mk (MG.dev z0) (MG.seq z0) (MG.kind z0) (VT.mk (VT.o (MG.v z0)) (VT.p (MG.v z0)) (VT.per (MG.v z0)) (VT.day (MG.v z0)) (VT.st (MG.v z0)) (VT.pr (MG.v z0)) (VT.rep (MG.v z0))) (DT.mk (DT.o (MG.d z0)) (DT.p (MG.d z0)) (DT.per (MG.d z0)) (DT.dev (MG.d z0)) (DT.num (MG.d z0)))) = (0 : Int))) ((15 ≤ 16777216 ∧ 15 = 15 ∧ 1 ≤ 9223372036854775807) ∧ ((1 ≤ 1 ∧ 15 = 15) ∧ List.length (flL g k) ≤ List.length (flL g k) ∧ 15 = 15 ∧ 56 = 56 ∧ 15 = 15 ∧ List.length (flL g k) + 1 ≤ 9223372036854775807 ∧ z2 * TI.bytes shrt0 ≤ 140737488355328) ∧ inR .i64 ((↑k : Int) + (1 : Int)) ∧ ∃ (i' : Nat), (TEq [(5, .own 0 z2), (11, .view 15 n (mgRow g)), (12, .int .i64 (↑n : Int)), (13, .int .i64 ((↑k : Int) + (1 : Int)))] [(5, .own 0 (List.length (flL g i'))), (11, .view 15 n (mgRow g)), (12, .int .i64 (↑n : Int)), (13, .int .i64 (↑i' : Int))] ∧ RowsEq [(0, .row 56 15 z2 (apF z1 (mgRow (atM (flL g k))) (chunkA (TI.sz shrt0) (.str (MG.dev z0) :: .int .i64 (MG.seq z0) :: .int .i64 (MG.kind z0) :: .str (VT.o (MG.v z0)) :: .str (VT.p (MG.v z0)) :: .int .i64 (VT.per (MG.v z0)) :: .int .i64 (VT.day (MG.v z0)) :: .int .i64 (VT.st (MG.v z0)) :: .int .i64 (VT.pr (MG.v z0)) :: .str (VT.rep (MG.v z0)) :: .str (DT.o (MG.d z0)) :: .str (DT.p (MG.d z0)) :: .int .i64 (DT.per (MG.d z0)) :: .str (DT.dev (MG.d z0)) :: .int .i64 (DT.num (MG.d z0)) :: List.append [] shrt1))) false)] [(0, .row 56 15 (List.length (flL g i')) (mgRow (atM (flL g i'))) false)]) ∧ P i') (inR .i64 ((↑k : Int) + (1 : Int)) ∧ ∃ (i' : Nat), (TEq [(5, .own 0 z1), (11, .view 15 n (mgRow g)), (12, .int .i64 (↑n : Int)), (13, .int .i64 ((↑k : Int) + (1 : Int)))] [(5, .own 0 (List.length (flL g i'))), (11, .view 15 n (mgRow g)), (12, .int .i64 (↑n : Int)), (13, .int .i64 (↑i' : Int))] ∧ RowsEq z3 [(0, .row 56 15 (List.length (flL g i')) (mgRow (atM (flL g i'))) false)]) ∧ P i')) ((∀ (i : Nat), i < List.length (flL g k) → true = true) ∧ ∃ (O' : List (Nat × AObj)), RowsEq z3 O' ∧ R (.exit 0) (St.mk [(5, .own 0 z1)] O' 1 []))) := by kernel_rfl
theorem ddL_sorted {h : Nat → MG} {n : Nat} (hs : ∀ i j, i < j → j < n → ¬ ordM (h j) (h i) < 0) : Asc ordM (ddL h n) ∧ ∀ x, x ∈ ddL h n ↔ x ∈ lst h n := by
  have le : ∀ i j, i < j → j < n → ordM (h i) (h j) ≤ 0 := fun i j hij hj => by
    have := hs i j hij hj
    rw [ordM_preC.neg] at this
    omega
  have nk : ∀ j, 0 < j → keepF h j = true → h j ≠ h (j - 1) := fun j hj hk e => by
    rw [keepF_pos hj, eqM_iff.2 e] at hk; cases hk
  refine ⟨?_, fun x => ⟨fun hx => ?_, fun hx => ?_⟩⟩
  · unfold Asc ddL
    refine List.pairwise_map.2 ((List.pairwise_lt_range.filter _).imp_of_mem fun {i j} hi hj hij => ?_)
    obtain ⟨hjn, hjk⟩ := List.mem_filter.1 hj
    have hjn := List.mem_range.1 hjn
    have l1 := le i j hij hjn
    rcases Int.lt_or_eq_of_le l1 with h0 | h0
    · exact h0
    · exfalso
      have e := ordM_zero.1 h0
      refine nk j (by omega) hjk ?_
      by_cases q : i = j - 1
      · rw [← q, e]
      · have l2 := le i (j - 1) (by omega) (by omega)
        have l3 := le (j - 1) j (by omega) hjn
        rw [e] at l2
        have := ordM_preC.neg (h (j - 1)) (h j)
        exact ordM_zero.1 (by omega)
  · unfold ddL at hx
    obtain ⟨i, hi, rfl⟩ := List.mem_map.1 hx
    exact List.mem_map.2 ⟨i, (List.mem_filter.1 hi).1, rfl⟩
  · obtain ⟨i, hi, rfl⟩ := List.mem_map.1 hx
    have key : ∀ i, i < n → h i ∈ ddL h n := fun i => by
      induction i with
      | zero => intro hi; exact List.mem_map.2 ⟨0, List.mem_filter.2 ⟨List.mem_range.2 hi, rfl⟩, rfl⟩
      | succ i ih =>
        intro hi
        cases q : keepF h (i + 1) with
        | true => exact List.mem_map.2 ⟨i + 1, List.mem_filter.2 ⟨List.mem_range.2 hi, q⟩, rfl⟩
        | false =>
          rw [keepF_pos (Nat.succ_pos i)] at q
          have e : eqM (h (i + 1)) (h i) = true := by
            have : i + 1 - 1 = i := rfl
            rw [this] at q
            cases r : eqM (h (i + 1)) (h i) with
            | true => rfl
            | false => rw [r] at q; cases q
          rw [eqM_iff.1 e]
          exact ih (by omega)
    exact key i (List.mem_range.1 hi)
theorem lst_atM (L : List MG) : lst (atM L) L.length = L := by
  apply List.ext_getElem
  · simp [lst]
  · intro i h1 h2
    simp [lst, atM, h2]
theorem lst_isM {g : Nat → MG} {L : List MG} {n : Nat} (h : lst g n = L) : n = L.length ∧ ∀ i, i < n → g i = atM L i := by
  subst h
  refine ⟨by simp [lst], fun i hi => ?_⟩
  simp [lst, atM, hi]
theorem flL_succ (g : Nat → MG) (k : Nat) : flL g (k + 1) = flL g k ++ bif okM (g k) then [g k] else [] := by
  unfold flL
  rw [lst_snocM, List.filter_append]
  cases h : okM (g k) <;> simp [h]
theorem flL_len (g : Nat → MG) (k : Nat) : (flL g k).length ≤ k := by
  have := List.length_filter_le okM (lst g k)
  have e : (lst g k).length = k := by simp [lst]
  unfold flL; omega
theorem cat2 (g : Nat → MG) (n : Nat) (h : Nat → MG) (m : Nat) : sumN (nn2 n m) 2 = n + m ∧ lst (catG (nn2 n m) (gg2 g h) 2) (n + m) = lst g n ++ lst h m ∧ ∀ i, i < n + m → (i < n ∧ catG (nn2 n m) (gg2 g h) 2 i = g i) ∨ (i - n < m ∧ n ≤ i ∧ catG (nn2 n m) (gg2 g h) 2 i = h (i - n)) := by
  have s1 : sumN (nn2 n m) 1 = n := by simp [sumN, nn2]
  have at1 : ∀ i, i < n + m → (i < n ∧ catG (nn2 n m) (gg2 g h) 2 i = g i) ∨ (i - n < m ∧ n ≤ i ∧ catG (nn2 n m) (gg2 g h) 2 i = h (i - n)) := fun i hi => by
    by_cases q : i < n
    · refine .inl ⟨q, ?_⟩
      rw [catG, s1, if_pos q, catG]
      have : sumN (nn2 n m) 0 = 0 := rfl
      rw [this, if_neg (by omega)]
      rfl
    · refine .inr ⟨by omega, by omega, ?_⟩
      rw [catG, s1, if_neg q]
      rfl
  refine ⟨by rw [sumN, s1]; rfl, ?_, at1⟩
  apply List.ext_getElem
  · simp [lst]
  · intro i h1 h2
    have hi : i < n + m := by simpa [lst] using h1
    rcases at1 i hi with ⟨q, e⟩ | ⟨q1, q2, e⟩
    · rw [List.getElem_append_left (by simp [lst, q])]
      simp [lst, e]
    · rw [List.getElem_append_right (by simp [lst, q2])]
      simp [lst, e]
theorem mg_loop (hP : C.P = Tryz.prog) (hL : ∀ w, C.laid w → LaidW w) (g : Nat → MG) (n : Nat) : LoopOK C 0 29 (loopC Tryz.f38 3) (L_mg g n) := by
  rintro st Q ⟨h0, hn, hs, hQ⟩
  refine AWP.ownNil 5 56 15 ?_
  refine LoopOK.mk (prg hP) [(33, .det S_msg)] 0 (.cons (msg_ok hP hL) .nil) [5, 11, 12, 13] [5] [] (S_mg g n) (fun k => k ≤ n) (fun k => n - k) 0 (Nat.zero_le _) h0 (fun k hk => ?_) (fun i => ⟨fun _ _ => rfl, trivial⟩)
  rw [nf_mg_round, Int.toNat_natCast]
  have hlen := flL_len g k
  have hsu := flL_succ g k
  refine condP_dec (fun h1 => ?_) (fun h1 => ?_)
  · have hk := hs k (by omega)
    refine ⟨⟨by omega, by omega, rfl⟩, ⟨hk.a, hk.b, hk.c, hk.d⟩, condP_dec (fun q => ?_) (fun q => ?_)⟩
    · have q : msgF (g k) = 0 := q
      have e : flL g (k + 1) = flL g k ++ [g k] := by rw [hsu, show okM (g k) = true from decide_eq_true q]; rfl
      refine ⟨⟨by omega, rfl, by omega⟩, ⟨⟨Nat.le_refl _, rfl⟩, Nat.le_refl _, rfl, rfl, rfl, by omega, ?_⟩, by simp only [inR]; omega, k + 1, ?_, by omega, by omega⟩
      · show ((flL g k).length + 1) * 176 ≤ _
        omega
      · rw [e, List.length_append]
        refine ⟨rfl, ⟨rfl, rfl, rfl, rfl, rfl, fun j hj => ?_⟩, trivial⟩
        generalize flL g k = L at *
        unfold apF
        by_cases h : j < L.length
        · rw [if_pos h]
          have : atM (L ++ [g k]) j = atM L j := by simp [atM, List.getD_eq_getElem?_getD, List.getElem?_append_left h]
          unfold mgRow
          rw [this]
        · have hj : j = L.length := by omega
          subst hj
          rw [if_neg h, Nat.sub_self]
          have : atM (L ++ [g k]) L.length = g k := by simp [atM]
          unfold mgRow
          rw [this]; rfl
    · have q : ¬ msgF (g k) = 0 := q
      have e : flL g (k + 1) = flL g k := by rw [hsu, show okM (g k) = false from decide_eq_false q]; simp
      refine ⟨by simp only [inR]; omega, k + 1, ?_, by omega, by omega⟩
      rw [e]
      exact ⟨rfl, ⟨rfl, rfl, rfl, rfl, rfl, fun _ _ => rfl⟩, trivial⟩
  · have : k = n := by omega
    subst this
    exact ⟨fun _ _ => rfl, _, rowsEqR _, hQ⟩
theorem mrg_ok (hP : C.P = Tryz.prog) (hL : ∀ w, C.laid w → LaidW w) : SpecOK C 38 S_mrg := by
  rintro args objs U Os vc hh hvc
  unfold S_mrg at hh
  split at hh <;> simp only [Option.some.injEq, Prod.mk.injEq, reduceCtorEq] at hh
  rename_i n f m h
  obtain ⟨rfl, rfl, rfl⟩ := hh
  obtain ⟨hn, hm, hf, hh, s1, s2⟩ := hvc
  generalize mgOf f = g at *
  generalize mgOf h = j at *
  subst hf; subst hh
  refine SpecOK.wpL (prg hP) [(72, .rel R_concat), (33, .det S_msg), (73, .rel R_sortM), (75, .rel R_cmpct)] [(3, L_mg (catG (nn2 n m) (gg2 g j) 2) (sumN (nn2 n m) 2))] 0 (.cons (concat_ok hP) (.cons (msg_ok hP hL) (.cons (sortM_ok hP) (.cons (cmpct_ok hP) .nil)))) (hP ▸ Tryz.func38) rfl rfl rfl [(loopC Tryz.f38 3, L_mg (catG (nn2 n m) (gg2 g j) 2) (sumN (nn2 n m) 2))] (by kernel_rfl) ⟨mg_loop hP hL _ _, trivial⟩ ?_
  rw [nf_mrg]
  obtain ⟨c1, c2, c3⟩ := cat2 g n j m
  have two : ∀ {p : Nat → Prop}, p 0 → p 1 → ∀ i, i < 2 → p i := fun h0 h1 i hi => by
    match i, hi with
    | 0, _ => exact h0
    | 1, _ => exact h1
  have sm : ∀ i, i < n + m → (catG (nn2 n m) (gg2 g j) 2 i).Sm := fun i hi => by
    rcases c3 i hi with ⟨q, e⟩ | ⟨q1, q2, e⟩
    · rw [e]; exact s1 i q
    · rw [e]; exact s2 _ q1
  refine ⟨⟨by omega, rfl, by omega⟩, two rfl rfl, nn2 n m, gg2 g j, rfl, rfl, rfl, by omega, two rfl rfl, by rw [c1]; omega, two rfl rfl, ⟨rfl, ⟨rfl, rfl, rfl, rfl, rfl, fun i hi => absurd hi (Nat.not_lt_zero i)⟩, trivial⟩, ?_⟩
  have hfl : flL (catG (nn2 n m) (gg2 g j) 2) (n + m) = (lst g n ++ lst j m).filter okM := by unfold flL; rw [c2]
  have hlen := flL_len (catG (nn2 n m) (gg2 g j) 2) (n + m)
  have hLd : mrgL g n j m = mrgF (lst g n ++ lst j m) := rfl
  rw [c1]
  generalize catG (nn2 n m) (gg2 g j) 2 = cc at *
  generalize hF : flL cc (n + m) = Fl at *
  refine ⟨by omega, sm, fun _ _ => rfl, rfl, rfl, rfl, by omega, rfl, fun h1 hp hs => ⟨fun _ _ => rfl, fun _ _ => rfl, rfl, rfl, rfl, by omega, rfl, fun k h2 hd => ?_⟩⟩
  have hp : (lst h1 Fl.length).Perm (lst (atM Fl) Fl.length) := hp
  have hd : lst h2 k = ddL h1 Fl.length := hd
  rw [lst_atM] at hp
  obtain ⟨a1, a2⟩ := ddL_sorted hs
  have hM : ddL h1 Fl.length = mrgL g n j m := by
    refine mrgF_uniq a1 fun x => ?_
    rw [a2, hp.mem_iff, hfl, List.mem_filter]
    unfold okM
    rw [decide_eq_true_eq]
  rw [hM] at hd
  show _ ∧ _ ∧ ∃ O', RowsEq _ O' ∧ AV.own 0 k = .own 0 (mrgL g n j m).length ∧ O' = [(0, .row 56 15 (mrgL g n j m).length (mgRow (atM (mrgL g n j m))) false)]
  generalize mrgL g n j m = M at *
  obtain ⟨rfl, hat⟩ := lst_isM hd
  refine ⟨fun _ _ => rfl, fun _ _ => rfl, [(0, .row 56 15 M.length (mgRow (atM M)) false)], ⟨⟨rfl, rfl, rfl, rfl, rfl, fun i hi => ?_⟩, trivial⟩, rfl, rfl⟩
  unfold mgRow
  rw [hat i hi]
end Go.Eng
namespace Go.Eng
theorem atM_get {L : List MG} {i : Nat} (h : i < L.length) : atM L i = L[i] := by simp [atM, h]
theorem atM_mem {L : List MG} {i : Nat} (h : i < L.length) : atM L i ∈ L := by rw [atM_get h]; exact List.getElem_mem h
theorem ascM_at {c : MG → MG → Int} {L : List MG} (h : Asc c L) {i j : Nat} (hij : i < j) (hj : j < L.length) : c (atM L i) (atM L j) < 0 := by
  rw [atM_get (show i < L.length by omega), atM_get hj]
  exact List.pairwise_iff_getElem.1 h i j (by omega) hj hij
theorem insM_at {L : List MG} (h : Asc ordM L) {m : MG} {a : Nat} (ha : a ≤ L.length) (h1 : ∀ i, a ≤ i → i < L.length → ordM m (atM L i) < 0) (h2 : a = 0 ∨ ¬ ordM m (atM L (a - 1)) < 0) :
    insM L m = bif decide (0 < a) && eqM (atM L (a - 1)) m then L else L.take a ++ m :: L.drop a := by
  have hasc := insM_asc m h
  by_cases q : 0 < a ∧ atM L (a - 1) = m
  · rw [decide_eq_true q.1, eqM_iff.2 q.2]
    refine Asc.uniq ordM_preC hasc h fun x => insM_mem.trans ⟨?_, .inr⟩
    rintro (rfl | hx)
    · have := atM_mem (L := L) (i := a - 1) (by omega)
      rw [q.2] at this; exact this
    · exact hx
  · have e : (decide (0 < a) && eqM (atM L (a - 1)) m) = false := by
      by_cases z : 0 < a
      · cases z2 : eqM (atM L (a - 1)) m with
        | false => exact Bool.and_false _
        | true => exact absurd ⟨z, eqM_iff.1 z2⟩ q
      · rw [decide_eq_false z]; rfl
    rw [e]
    refine Asc.uniq ordM_preC hasc (Asc.insert (by rw [List.take_append_drop]; exact h) (fun y hy => ?_) (fun y hy => ?_)) fun x => insM_mem.trans ?_
    · obtain ⟨i, hi, rfl⟩ := List.mem_iff_getElem.1 hy
      rw [List.length_take] at hi
      rw [List.getElem_take, ← atM_get (show i < L.length by omega)]
      have b : ¬ ordM m (atM L (a - 1)) < 0 := h2.resolve_left (by omega)
      have ne : ordM m (atM L (a - 1)) ≠ 0 := fun z => q ⟨by omega, (ordM_zero.1 z).symm⟩
      have n := ordM_preC.neg m (atM L (a - 1))
      have n' := ordM_preC.neg (atM L (a - 1)) m
      have lt : ordM (atM L (a - 1)) m < 0 := by omega
      by_cases z : i = a - 1
      · rw [z]; exact lt
      · exact ordM_preC.lt_trans (ascM_at h (show i < a - 1 by omega) (by omega)) lt
    · obtain ⟨i, hi, rfl⟩ := List.mem_iff_getElem.1 hy
      rw [List.length_drop] at hi
      rw [List.getElem_drop, ← atM_get (show a + i < L.length by omega)]
      exact h1 _ (by omega) (by omega)
    · show x = m ∨ x ∈ L ↔ x ∈ L.take a ++ m :: L.drop a
      rw [List.mem_append, List.mem_cons]
      have : x ∈ L ↔ x ∈ L.take a ∨ x ∈ L.drop a := by rw [← List.mem_append, List.take_append_drop]
      rw [this]
      grind
end Go.Eng
namespace Go.Eng
end Go.Eng
namespace Go.Eng
def S_slotR : Spec
  | [.str o, .str p, .int .i64 per], [] => some (.bool (slotF o p per), [], o.length < 4294967281)
  | _, _ => none
def S_period : Spec
  | [.int .i64 p], [] => some (.bool (decide (0 ≤ p) && decide (p ≤ 5999)), [], True)
  | _, _ => none
structure RX where
  k : Nat
  L : List RW
end Go.Eng
namespace Go.Eng
def S_decR : Spec
  | [.agg [.str o, .str p, .int .i64 per, .str dev, .int .i64 num]], [] => some (.bool (slotF o p per && (nameF dev && numF num)), [], o.length < 4294967281 ∧ dev.length < 4294967281)
  | _, _ => none
def S_textR : Spec
  | [.str a, .str b], [] => some (.int .i64 (cmpS a b), [], True)
  | _, _ => none
def S_numR : Spec
  | [.int .i64 a, .int .i64 b], [] => some (.int .i64 (cmpI a b), [], True)
  | _, _ => none
def eqMs (g h : Nat → MG) : Nat → Bool
  | 0 => true
  | k + 1 => eqMs g h k && eqM (g k) (h k)
def S_sameM : Spec
  | [.view 15 n f, .view 15 m h], [] => some (.bool (decide (n = m) && eqMs (mgOf f) (mgOf h) n), [], n ≤ 1000000 ∧ f = mgRow (mgOf f) ∧ h = mgRow (mgOf h))
  | _, _ => none
def S_sm (g h : Nat → MG) (n k : Nat) : St := ⟨[(0, .view 15 n (mgRow g)), (1, .view 15 n (mgRow h)), (12, .int .i64 n), (13, .int .i64 k)], [], 0, []⟩
def L_sm (g h : Nat → MG) (n : Nat) : LSpec := fun st Q => canonIs te 0 [0, 1, 12, 13] st (S_sm g h n 0) ∧ n ≤ 1000000 ∧
  condP (eqMs g h n) (Q (.exit 0) ⟨[], [], 0, []⟩) (Q .ret ⟨[(4, .bool false)], [], 0, []⟩)
end Go.Eng
namespace Go.Eng
theorem eqMs_self (g : Nat → MG) : ∀ n, eqMs g g n = true
  | 0 => rfl
  | n + 1 => by rw [eqMs, eqMs_self g n, eqM_iff.2 rfl]; rfl
end Go.Eng
namespace Go.Eng
structure MgS where
  c : Nat
  g : Nat → MG
  a : Int
def MG.put (g : Nat → MG) (k : Nat) (r : MG) (i : Nat) : MG := if i < k then g i else r
def S_msgs (n : Nat) (v : Nat → Int) (N : Int) (i : MgS) : St := ⟨[(0, .ptr 0 0), (5, .own 1 i.c), (9, .int .i64 N), (10, .int .i64 i.c)],
  [(0, .cells [.view 1 n (intRow v), .int .i64 i.a] 28), (1, .row 56 15 i.c (mgRow i.g) false)], 2, []⟩
def L_msgs (n : Nat) (v : Nat → Int) (a N : Int) : LSpec := fun st Q => canonIs te 1 [0, 5, 9, 10] (ownNil 5 56 15 st) (S_msgs n v N ⟨0, fun _ => default, a⟩) ∧ (0 ≤ N ∧ N ≤ 100) ∧ (0 ≤ a ∧ a ≤ 4611686018427375000) ∧
  ∀ i : MgS, i.c = N.toNat → (a ≤ i.a ∧ i.a ≤ a + 10 * i.c) → (∀ j, j < i.c → (i.g j).Made) → Q (.exit 0) ⟨[(5, .own 1 i.c)], [(0, .cells [.view 1 n (intRow v), .int .i64 i.a] 28), (1, .row 56 15 i.c (mgRow i.g) false)], 2, []⟩
def R_msgs : RSpec
  | [.ptr 0 0, .int .i64 most], [.cells [.view sz n f, .int .i64 a] t], R => t = 28 ∧ sz = 1 ∧ f = intRow (vInt f) ∧ (0 ≤ a ∧ a ≤ 4611686018427370000) ∧ (0 ≤ most ∧ most ≤ 90) ∧
      ∀ (c : Nat) (g : Nat → MG) (a' : Int), c ≤ most.toNat → (a ≤ a' ∧ a' ≤ a + 1000) → (∀ j, j < c → (g j).Made) →
      R (.own 1 c) [(0, .cells [.view 1 n f, .int .i64 a'] 28), (1, .row 56 15 c (mgRow g) false)]
  | _, _, _ => False
def cutM (g : Nat → MG) (i : Nat) : MG := ⟨(g i).dev.take 30, (g i).seq, (g i).kind, ⟨(g i).v.o.take 30, (g i).v.p.take 30, (g i).v.per, (g i).v.day, (g i).v.st, (g i).v.pr, (g i).v.rep.take 30⟩, ⟨(g i).d.o.take 30, (g i).d.p.take 30, (g i).d.per, (g i).d.dev.take 30, (g i).d.num⟩⟩
def S_rw11 (g : Nat → MG) (n k : Nat) : St := ⟨[(3, .own 0 k), (10, .view 15 n (mgRow g)), (11, .int .i64 n), (12, .int .i64 k)], [(0, .row 56 15 k (mgRow (cutM g)) false)], 1, []⟩
def L_rw11 (g : Nat → MG) (n : Nat) : LSpec := fun st Q => canonIs te 0 [3, 10, 11, 12] (ownNil 3 56 15 st) (S_rw11 g n 0) ∧ n ≤ 12 ∧ Q (.exit 0) ⟨[(3, .own 0 n)], [(0, .row 56 15 n (mgRow (cutM g)) false)], 1, []⟩
def S_raw11 : Spec
  | [.view 15 n f], [] => some (.view 15 (min n 12) (mgRow (cutM (mgOf f))), [], f = mgRow (mgOf f))
  | _, _ => none
structure RE (f : Nat → List AV) (n : Nat) : Prop where
  eq : ∀ i, i < n → f i = mgRow (mgOf f) i
structure RM (f : Nat → List AV) (n : Nat) : Prop where
  eq : ∀ i, i < n → f i = mgRow (mgOf f) i
  sm : ∀ i, i < n → (mgOf f i).Sm
def R_sp11 : RSpec
  | [.ptr 0 0], [.cells [.view sz n f, .int .i64 a] t], R => t = 28 ∧ sz = 1 ∧ f = intRow (vInt f) ∧ (0 ≤ a ∧ a ≤ 4611686018427380000) ∧
      ∀ (m : MG) (a' : Int), m.Sm → (a ≤ a' ∧ a' ≤ a + 12) →
      R (.agg [.str m.dev, .int .i64 m.seq, .int .i64 m.kind, .str m.v.o, .str m.v.p, .int .i64 m.v.per, .int .i64 m.v.day, .int .i64 m.v.st, .int .i64 m.v.pr, .str m.v.rep, .str m.d.o, .str m.d.p, .int .i64 m.d.per, .str m.d.dev, .int .i64 m.d.num]) [(0, .cells [.view 1 n f, .int .i64 a'] 28)]
  | _, _, _ => False
def R_list : RSpec
  | [.ptr 0 0], [.cells [.view sz n f, .int .i64 a] t], R => t = 28 ∧ sz = 1 ∧ f = intRow (vInt f) ∧ (0 ≤ a ∧ a ≤ 4611686018427360000) ∧
      ∀ (c : Nat) (g : Nat → MG) (a' : Int), c ≤ 12 → (a ≤ a' ∧ a' ≤ a + 1100) → (∀ j, j < c → (g j).Sm) →
      R (.view 15 c (mgRow g)) [(0, .cells [.view 1 n f, .int .i64 a'] 28)]
  | _, _, _ => False
def S_awake11 : Spec
  | [], [] => some (.bool true, [], True)
  | _, _ => none
def S_resolveO : Spec
  | [.own 0 n, .str o, .str p, .int .i64 per], [.row _ 15 m f _] =>
      some (.tuple [.agg [.str (resF (mgOf f) n o p per).1.o, .str (resF (mgOf f) n o p per).1.p, .int .i64 (resF (mgOf f) n o p per).1.per, .int .i64 (resF (mgOf f) n o p per).1.day, .int .i64 (resF (mgOf f) n o p per).1.st, .int .i64 (resF (mgOf f) n o p per).1.pr, .str (resF (mgOf f) n o p per).1.rep], .int .i64 (resF (mgOf f) n o p per).2], [],
        n = m ∧ n ≤ 100000 ∧ RM f n)
  | _, _ => none
def S_mrgV : Spec
  | [.view 15 n f, .view 15 m h], [] => some (.view 15 (mrgL (mgOf f) n (mgOf h) m).length (mgRow (atM (mrgL (mgOf f) n (mgOf h) m))), [],
      n ≤ 100000 ∧ m ≤ 100000 ∧ f = mgRow (mgOf f) ∧ h = mgRow (mgOf h) ∧ (∀ i, i < n → (mgOf f i).Sm) ∧ ∀ i, i < m → (mgOf h i).Sm)
  | _, _ => none
end Go.Eng
namespace Go.Eng
structure LiS where
  j : Nat
  c : Nat
  g : Nat → MG
  a : Int
def S_li (n : Nat) (v : Nat → Int) (N : Int) (i : LiS) : St := ⟨[(0, .ptr 0 0), (3, .own 1 i.c), (7, .int .i64 N), (8, .int .i64 i.j)],
  [(0, .cells [.view 1 n (intRow v), .int .i64 i.a] 28), (1, .row 56 15 i.c (mgRow i.g) false)], 2, []⟩
def L_li (n : Nat) (v : Nat → Int) : LSpec := fun st Q => ∃ (N : Int) (c : Nat) (g : Nat → MG) (a : Int), canonIs te 1 [0, 3, 7, 8] st (S_li n v N ⟨0, c, g, a⟩) ∧ (0 ≤ N ∧ N ≤ 2) ∧ c ≤ 9 ∧ (0 ≤ a ∧ a ≤ 4611686018427365000) ∧ (∀ j, j < c → (g j).Sm) ∧
  ∀ i : LiS, i.c = c + N.toNat → (a ≤ i.a ∧ i.a ≤ a + 24) → (∀ j, j < i.c → (i.g j).Sm) → Q (.exit 0) ⟨[(0, .ptr 0 0), (3, .own 1 i.c)], [(0, .cells [.view 1 n (intRow v), .int .i64 i.a] 28), (1, .row 56 15 i.c (mgRow i.g) false)], 2, []⟩
structure TrS where
  k : Nat
  L : List MG
  a : Int
end Go.Eng
namespace Go.Eng
open Go.Proofs Go.RowKit
set_option maxRecDepth 20000
theorem nf_nameR (s : List UInt8) (R : AV → List (Nat × AObj) → Prop) : wpFn te [] [(2, L_nameR s)] 0 Tryz.f68 [.str s] [] R = (letI z0 := (↑(List.length s) : Int); some (St.mk [(0, .str s), (6, .int .i64 z0), (7, .int .i64 0)] [] 0 []) = some (St.mk [(0, .str s), (6, .int .i64 z0), (7, .int .i64 (↑0 : Int))] [] 0 []) ∧ ((∀ (k : Nat), k < List.length s → OKat s k) → condP (decide ((1 : Int) ≤ z0)) (R (.bool (decide (z0 ≤ (24 : Int)))) []) (R (.bool false) [])) ∧ ∀ (k : Nat), k < List.length s → ¬OKat s k → R (.bool false) []) := by kernel_rfl
theorem nf_nameR_round (s : List UInt8) (k : Nat) (P : Nat → Prop) (R : Exit → St → Prop) : roundP ⟨te, [], [], 0, 59, 0⟩ (loopB Tryz.f68 2) [0, 6, 7] [0] [2] (S_nrState s) P R (S_nrState s k) = (letI z4 := R .ret (St.mk [(2, .bool false)] [] 0 []); letI z3 := (↑(List.length s) : Int); letI z2 := (↑(UInt8.toNat (List.getD s (Int.toNat (↑k : Int)) (0 : UInt8))) : Int); letI z1 := (inR .i64 ((↑k : Int) + (1 : Int)) ∧ ∃ (i' : Nat), some (St.mk [(0, .str s), (6, .int .i64 z3), (7, .int .i64 ((↑k : Int) + (1 : Int)))] [] 0 []) = some (St.mk [(0, .str s), (6, .int .i64 z3), (7, .int .i64 (↑i' : Int))] [] 0 []) ∧ P i'); letI z0 := (condP (decide ((↑k : Int) = (0 : Int))) z4 (((0 : Int) ≤ (↑k : Int) ∧ (↑k : Int) < z3) ∧ condP (!decide (z2 = (45 : Int))) (((0 : Int) ≤ (↑k : Int) ∧ (↑k : Int) < z3) ∧ condP (!decide (z2 = (46 : Int))) z4 z1) z1)); condP (decide ((↑k : Int) < z3)) (((0 : Int) ≤ (↑k : Int) ∧ (↑k : Int) < z3) ∧ condP (decide ((97 : Int) ≤ z2)) (((0 : Int) ≤ (↑k : Int) ∧ (↑k : Int) < z3) ∧ condP (decide (z2 ≤ (122 : Int))) z1 (((0 : Int) ≤ (↑k : Int) ∧ (↑k : Int) < z3) ∧ condP (decide ((48 : Int) ≤ z2)) (((0 : Int) ≤ (↑k : Int) ∧ (↑k : Int) < z3) ∧ condP (!decide (z2 ≤ (57 : Int))) z0 z1) z0)) (((0 : Int) ≤ (↑k : Int) ∧ (↑k : Int) < z3) ∧ condP (decide ((48 : Int) ≤ z2)) (((0 : Int) ≤ (↑k : Int) ∧ (↑k : Int) < z3) ∧ condP (!decide (z2 ≤ (57 : Int))) z0 z1) z0)) (R (.exit 0) (St.mk [(0, .str s)] [] 0 []))) := by kernel_rfl
theorem nf_cdR (s : List UInt8) (R : AV → List (Nat × AObj) → Prop) : wpFn te [] [(5, L_checkDigitR s)] 0 Tryz.f85 [.str s] [] R = (letI z2 := R (.tuple [.int .i64 0, .bool false]) []; letI z1 := (↑(List.length s) : Int); letI z0 := (some (St.mk [(0, .str s), (4, .int .i64 0), (16, .int .i64 z1), (17, .int .i64 0)] [] 0 []) = some (St.mk [(0, .str s), (4, .int .i64 (cdSum s 0)), (16, .int .i64 z1), (17, .int .i64 (↑0 : Int))] [] 0 []) ∧ List.length s ≤ 12 ∧ condP (List.all s isDig) ((10 : Int) ≠ (0 : Int) ∧ inR .i64 ((10 : Int) - Int.tmod (cdSum s (List.length s)) (10 : Int)) ∧ (10 : Int) ≠ (0 : Int) ∧ R (.tuple [.int .i64 (Int.tmod ((10 : Int) - Int.tmod (cdSum s (List.length s)) (10 : Int)) (10 : Int)), .bool true]) []) z2); condP (!decide (z1 = (7 : Int))) (condP (!decide (z1 = (12 : Int))) z2 z0) z0) := by kernel_rfl
theorem nf_cdR_round (s : List UInt8) (k : Nat) (P : Nat → Prop) (R : Exit → St → Prop) : roundP ⟨te, [], [], 0, 50, 0⟩ (loopB Tryz.f85 5) [0, 4, 16, 17] [4] [2, 3] (S_cdrState s) P R (S_cdrState s k) = (letI z2 := R .ret (St.mk [(2, .int .i64 0), (3, .bool false)] [] 0 []); letI z1 := (↑(List.length s) : Int); letI z0 := (↑(UInt8.toNat (List.getD s (Int.toNat (↑k : Int)) (0 : UInt8))) : Int); letI z4 := (cdSum s k + (1 : Int) * ((z0 - (48 : Int)) % (256 : Int))); letI z3 := (cdSum s k + (3 : Int) * ((z0 - (48 : Int)) % (256 : Int))); condP (decide ((↑k : Int) < z1)) (((0 : Int) ≤ (↑k : Int) ∧ (↑k : Int) < z1) ∧ condP (decide (z0 < (48 : Int))) z2 (((0 : Int) ≤ (↑k : Int) ∧ (↑k : Int) < z1) ∧ condP (decide ((57 : Int) < z0)) z2 (inR .i64 (z1 - (↑k : Int)) ∧ (2 : Int) ≠ (0 : Int) ∧ condP (decide (Int.tmod (z1 - (↑k : Int)) (2 : Int) = (1 : Int))) (((0 : Int) ≤ (↑k : Int) ∧ (↑k : Int) < z1) ∧ inR .i64 ((z0 - (48 : Int)) % (256 : Int)) ∧ inR .i64 ((3 : Int) * ((z0 - (48 : Int)) % (256 : Int))) ∧ inR .i64 z3 ∧ inR .i64 ((↑k : Int) + (1 : Int)) ∧ ∃ (i' : Nat), some (St.mk [(0, .str s), (4, .int .i64 z3), (16, .int .i64 z1), (17, .int .i64 ((↑k : Int) + (1 : Int)))] [] 0 []) = some (St.mk [(0, .str s), (4, .int .i64 (cdSum s i')), (16, .int .i64 z1), (17, .int .i64 (↑i' : Int))] [] 0 []) ∧ P i') (((0 : Int) ≤ (↑k : Int) ∧ (↑k : Int) < z1) ∧ inR .i64 ((z0 - (48 : Int)) % (256 : Int)) ∧ inR .i64 ((1 : Int) * ((z0 - (48 : Int)) % (256 : Int))) ∧ inR .i64 z4 ∧ inR .i64 ((↑k : Int) + (1 : Int)) ∧ ∃ (i' : Nat), some (St.mk [(0, .str s), (4, .int .i64 z4), (16, .int .i64 z1), (17, .int .i64 ((↑k : Int) + (1 : Int)))] [] 0 []) = some (St.mk [(0, .str s), (4, .int .i64 (cdSum s i')), (16, .int .i64 z1), (17, .int .i64 (↑i' : Int))] [] 0 []) ∧ P i')))) (R (.exit 0) (St.mk [(4, .int .i64 (cdSum s k))] [] 0 []))) := by kernel_rfl
theorem nf_validIDR (s : List UInt8) (R : AV → List (Nat × AObj) → Prop) : wpFn te [(85, .det S_checkDigit)] [] 0 Tryz.f99 [.str s] [] R = (letI z1 := (↑(List.length s) : Int); letI z2 := (cdF (List.take (Int.toNat (z1 - (1 : Int))) s)); letI z0 := (inR .i64 (z1 - (1 : Int)) ∧ ((0 : Int) ≤ z1 - (1 : Int) ∧ z1 - (1 : Int) ≤ z1) ∧ True ∧ condP (Prod.snd z2) (inR .i64 (z1 - (1 : Int)) ∧ ((0 : Int) ≤ z1 - (1 : Int) ∧ z1 - (1 : Int) < z1) ∧ inR .i64 ((48 : Int) + Prod.fst z2) ∧ inR .u8 ((48 : Int) + Prod.fst z2) ∧ R (.bool (decide ((↑(UInt8.toNat (List.getD s (Int.toNat (z1 - (1 : Int))) (0 : UInt8))) : Int) = (48 : Int) + Prod.fst z2))) []) (R (.bool false) [])); condP (!decide (z1 = (8 : Int))) (condP (!decide (z1 = (13 : Int))) (R (.bool false) []) z0) z0) := by kernel_rfl
variable {C : Ctx} [C.Loose]
theorem nameR_loop (hP : C.P = Tryz.prog) (s : List UInt8) (hm : s.length ≤ 9223372036854775806) : LoopOK C 0 59 (loopC Tryz.f68 2) (L_nameR s) := by
  have _ : C.Loose := inferInstance
  rintro st Q ⟨h0, hQ1, hQ2⟩
  refine LoopOK.mk (prg hP) [] 0 .nil [0, 6, 7] [0] [2] (S_nrState s) (fun k => k ≤ s.length ∧ ∀ j, j < k → OKat s j) (fun k => s.length - k) 0 ⟨Nat.zero_le _, fun j h => by omega⟩ h0 fun k ⟨hk, hall⟩ => ?_
  rw [nf_nameR_round]
  refine condP_dec (fun h => ?_) (fun h => ?_)
  · have hlt : k < s.length := by omega
    have hret : ¬ OKat s k → Q .ret ⟨[(2, .bool false)], [], 0, []⟩ := hQ2 k hlt
    have hgo : OKat s k → ∃ i' : Nat, some (St.mk [(0, .str s), (6, .int .i64 (s.length : Int)), (7, .int .i64 ((k : Int) + 1))] [] 0 []) = some (St.mk [(0, .str s), (6, .int .i64 (s.length : Int)), (7, .int .i64 (i' : Int))] [] 0 []) ∧ (i' ≤ s.length ∧ ∀ j, j < i' → OKat s j) ∧ s.length - i' < s.length - k := fun hok =>
      ⟨k + 1, rfl, ⟨by omega, fun j hj => by
        rcases Nat.lt_succ_iff_lt_or_eq.1 hj with hj | rfl
        · exact hall j hj
        · exact hok⟩, by omega⟩
    unfold OKat at hret hgo
    simp only [Int.toNat_natCast, inR]
    repeat' (first | (refine condP_dec (fun _ => ?_) (fun _ => ?_)) | (refine condP_ndec (fun _ => ?_) (fun _ => ?_)) | (refine And.intro (by omega) ?_) | fail)
    all_goals (first | exact hret (by omega) | exact hgo (by omega))
  · exact hQ1 fun j hj => hall j (by omega)
theorem nameR_ok (hP : C.P = Tryz.prog) : SpecOK C 68 S_nameR := by
  rintro args objs U Os vc h hvc
  unfold S_nameR at h
  split at h <;> simp only [Option.some.injEq, Prod.mk.injEq, reduceCtorEq] at h
  rename_i s
  obtain ⟨rfl, rfl, rfl⟩ := h
  refine SpecOK.wpL (prg hP) [] [(2, L_nameR s)] 0 .nil (hP ▸ Tryz.func68) rfl rfl rfl [(loopC Tryz.f68 2, L_nameR s)] (by kernel_rfl) ⟨nameR_loop hP s hvc, trivial⟩ ?_
  rw [nf_nameR]
  refine ⟨rfl, fun hall => condP_dec (fun h1 => ⟨congrArg AV.bool ?_, rfl⟩) (fun h1 => ⟨congrArg AV.bool ?_, rfl⟩), fun k hk hno => ⟨congrArg AV.bool ?_, rfl⟩⟩
  · by_cases h2 : s.length ≤ 24
    · rw [(nameF_iff s).2 ⟨⟨by omega, h2⟩, hall⟩]; exact decide_eq_true (by omega)
    · rw [decide_eq_false (by omega)]
      cases hn : nameF s with
      | false => rfl
      | true => exact absurd ((nameF_iff s).1 hn).1.2 h2
  · cases hn : nameF s with
    | false => rfl
    | true => exact absurd ((nameF_iff s).1 hn).1.1 (by omega)
  · cases hn : nameF s with
    | false => rfl
    | true => exact absurd (((nameF_iff s).1 hn).2 k hk) hno
theorem cdR_loop (hP : C.P = Tryz.prog) (s : List UInt8) : LoopOK C 0 50 (loopC Tryz.f85 5) (L_checkDigitR s) := by
  have _ : C.Loose := inferInstance
  rintro st Q ⟨h0, hlen, hQ⟩
  have hQ := condP_elim hQ
  refine LoopOK.mk (prg hP) [] 0 .nil [0, 4, 16, 17] [4] [2, 3] (S_cdrState s) (fun k => k ≤ s.length ∧ ∀ j, j < k → 48 ≤ (s.getD j 0).toNat ∧ (s.getD j 0).toNat ≤ 57) (fun k => s.length - k) 0 ⟨Nat.zero_le _, fun j h => by omega⟩ h0 fun k ⟨hk, hall⟩ => ?_
  rw [nf_cdR_round]
  have hb := cdSum_boundk k hk hall
  refine condP_dec (fun h => ?_) (fun h => ?_)
  · have hlt : k < s.length := by omega
    have hret : ¬ (48 ≤ (s.getD k 0).toNat ∧ (s.getD k 0).toNat ≤ 57) → Q .ret ⟨[(2, .int .i64 0), (3, .bool false)], [], 0, []⟩ := fun hno => hQ.2 (by
      cases ha : s.all isDig with
      | false => rfl
      | true => exact absurd (isDig_at ha k hlt) hno)
    have e : Int.tmod (↑s.length - ↑k) 2 = (↑s.length - ↑k) % 2 := Int.tmod_eq_emod_of_nonneg (by omega)
    have hs : cdSum s (k + 1) = cdSum s k + (1 + 2 * ((↑s.length - ↑k) % 2)) * (↑(s.getD k 0).toNat - 48) := rfl
    have hgo : (48 ≤ (s.getD k 0).toNat ∧ (s.getD k 0).toNat ≤ 57) → (k + 1 ≤ s.length ∧ ∀ j, j < k + 1 → 48 ≤ (s.getD j 0).toNat ∧ (s.getD j 0).toNat ≤ 57) ∧ s.length - (k + 1) < s.length - k := fun hok =>
      ⟨⟨by omega, fun j hj => by
        rcases Nat.lt_succ_iff_lt_or_eq.1 hj with hj | rfl
        · exact hall j hj
        · exact hok⟩, by omega⟩
    simp only [Int.toNat_natCast, inR, e]
    refine ⟨by omega, condP_dec (fun h1 => hret (by omega)) (fun h1 => ⟨by omega, condP_dec (fun h2 => hret (by omega)) (fun h2 => ⟨by omega, by omega, ?_⟩)⟩)⟩
    have hgo := hgo (by omega)
    have e3 : ((s.getD k 0).toNat - 48 : Int) % 256 = (s.getD k 0).toNat - 48 := by omega
    rw [e3]
    refine condP_dec (fun h3 => ?_) (fun h3 => ?_)
    · rw [h3] at hs
      exact ⟨by omega, by omega, by omega, by omega, by omega, k + 1, by rw [hs]; rfl, hgo⟩
    · have h3 : (↑s.length - ↑k : Int) % 2 = 0 := by omega
      rw [h3] at hs
      exact ⟨by omega, by omega, by omega, by omega, by omega, k + 1, by rw [hs]; rfl, hgo⟩
  · have hks : k = s.length := by omega
    rw [hks]
    exact hQ.1 (all_isDig fun j hj => hall j (by omega))
theorem cdR_ok (hP : C.P = Tryz.prog) : SpecOK C 85 S_checkDigit := by
  rintro args objs U Os vc h hvc
  unfold S_checkDigit at h
  split at h <;> simp only [Option.some.injEq, Prod.mk.injEq, reduceCtorEq] at h
  rename_i s
  obtain ⟨rfl, rfl, rfl⟩ := h
  refine SpecOK.wpL (prg hP) [] [(5, L_checkDigitR s)] 0 .nil (hP ▸ Tryz.func85) rfl rfl rfl [(loopC Tryz.f85 5, L_checkDigitR s)] (by kernel_rfl) ⟨cdR_loop hP s, trivial⟩ ?_
  rw [nf_cdR]
  have main : (s.length = 7 ∨ s.length = 12) → condP (s.all isDig) ((10 : Int) ≠ 0 ∧ inR .i64 (10 - Int.tmod (cdSum s s.length) 10) ∧ (10 : Int) ≠ 0 ∧ AV.tuple [.int .i64 (Int.tmod (10 - Int.tmod (cdSum s s.length) 10) 10), .bool true] = .tuple [.int .i64 (cdF s).1, .bool (cdF s).2] ∧ ([] : List (Nat × AObj)) = [])
      (AV.tuple [.int .i64 0, .bool false] = .tuple [.int .i64 (cdF s).1, .bool (cdF s).2] ∧ ([] : List (Nat × AObj)) = []) := by
    intro hl
    have hd : digitsF s 7 12 = s.all isDig := by
      unfold digitsF
      rcases hl with h | h <;> simp [h]
    refine condP_intro (fun ha => ?_) (fun ha => ?_)
    · have hb := cdSum_bound ha s.length (Nat.le_refl _)
      have e : Int.tmod (cdSum s s.length) 10 = cdSum s s.length % 10 := Int.tmod_eq_emod_of_nonneg (by omega)
      rw [e, Int.tmod_eq_emod_of_nonneg (by omega)]
      refine ⟨by omega, by simp only [inR]; omega, by omega, ?_, rfl⟩
      simp [cdF, hd, ha]
    · refine ⟨?_, rfl⟩
      simp [cdF, hd, ha]
  refine condP_ndec (fun h1 => condP_ndec (fun h2 => ⟨?_, rfl⟩) (fun h2 => ⟨rfl, by omega, main (by omega)⟩)) (fun h1 => ⟨rfl, by omega, main (by omega)⟩)
  have hd : digitsF s 7 12 = false := by unfold digitsF; rw [decide_eq_false h1, decide_eq_false h2]; rfl
  simp [cdF, hd]
theorem validIDR_ok (hP : C.P = Tryz.prog) : SpecOK C 99 S_validID := by
  rintro args objs U Os vc h hvc
  unfold S_validID at h
  split at h <;> simp only [Option.some.injEq, Prod.mk.injEq, reduceCtorEq] at h
  rename_i s
  obtain ⟨rfl, rfl, rfl⟩ := h
  refine SpecOK.wp0 (prg hP) [(85, .det S_checkDigit)] 0 (.cons (cdR_ok hP) .nil) (hP ▸ Tryz.func99) rfl rfl rfl ?_
  rw [nf_validIDR]
  have e1 : ∀ h : s.length = 8 ∨ s.length = 13, (↑s.length - 1 : Int).toNat = s.length - 1 := by intro h; omega
  have hcd := cdF_bound (s.take (s.length - 1))
  have last : (s.length = 8 ∨ s.length = 13) → (s.all isDig = ((cdF (s.take (s.length - 1))).2 && isDig (s.getD (s.length - 1) 0))) := by
    intro hl
    have h2 : (cdF (s.take (s.length - 1))).2 = (s.take (s.length - 1)).all isDig := by
      have hd : digitsF (s.take (s.length - 1)) 7 12 = (s.take (s.length - 1)).all isDig := by
        unfold digitsF
        have : (s.take (s.length - 1)).length = s.length - 1 := by simp
        rcases hl with h | h <;> simp [h]
      unfold cdF
      rw [hd]
      cases (s.take (s.length - 1)).all isDig <;> rfl
    have hs : s = s.take (s.length - 1) ++ [s.getD (s.length - 1) 0] := by
      have hlt : s.length - 1 < s.length := by omega
      have := (List.take_append_drop (s.length - 1) s).symm
      rw [List.drop_eq_getElem_cons hlt] at this
      have e : s.getD (s.length - 1) 0 = s[s.length - 1] := by simp [List.getD, hlt]
      rw [e]
      have hd : List.drop (s.length - 1 + 1) s = [] := List.drop_eq_nil_of_le (by omega)
      rw [hd] at this
      exact this
    rw [h2]
    conv => lhs; rw [hs]
    simp
  have hv : (s.length = 8 ∨ s.length = 13) → validIDF s = ((cdF (s.take (s.length - 1))).2 && decide ((s.getD (s.length - 1) 0).toNat = 48 + (cdF (s.take (s.length - 1))).1)) := by
    intro hl
    have hd : digitsF s 8 13 = s.all isDig := by
      unfold digitsF
      rcases hl with h | h <;> simp [h]
    unfold validIDF
    rw [hd, last hl]
    cases hc : (cdF (s.take (s.length - 1))).2 with
    | false => rfl
    | true =>
      simp only [Bool.true_and]
      cases hi : isDig (s.getD (s.length - 1) 0) with
      | true =>
        refine decide_eq_decide.2 ?_
        omega
      | false =>
        refine (decide_eq_false fun he => ?_).symm
        simp only [isDig, Bool.and_eq_false_imp, decide_eq_true_eq, decide_eq_false_iff_not] at hi
        omega
  have main : (s.length = 8 ∨ s.length = 13) → condP (cdF (s.take (s.length - 1))).2 (inR .i64 (↑s.length - 1) ∧ (0 ≤ (↑s.length - 1 : Int) ∧ (↑s.length - 1 : Int) < ↑s.length) ∧ inR .i64 (48 + (cdF (s.take (s.length - 1))).1) ∧ inR .u8 (48 + (cdF (s.take (s.length - 1))).1) ∧
      AV.bool (decide ((↑(s.getD (s.length - 1) 0).toNat : Int) = 48 + (cdF (s.take (s.length - 1))).1)) = .bool (validIDF s) ∧ ([] : List (Nat × AObj)) = []) (AV.bool false = .bool (validIDF s) ∧ ([] : List (Nat × AObj)) = []) := by
    intro hl
    rw [hv hl]
    refine condP_intro (fun hc => ?_) (fun hc => ?_)
    · simp only [inR, hc, Bool.true_and]
      exact ⟨by omega, by omega, by omega, by omega, by simp⟩
    · simp [hc]
  refine condP_ndec (fun h1 => condP_ndec (fun h2 => ⟨?_, rfl⟩) (fun h2 => ?_)) (fun h1 => ?_)
  · have hd : digitsF s 8 13 = false := by unfold digitsF; rw [decide_eq_false h1, decide_eq_false h2]; rfl
    simp [validIDF, hd]
  · have hl : s.length = 8 ∨ s.length = 13 := by omega
    rw [e1 hl]
    exact ⟨by simp only [inR]; omega, by omega, trivial, main hl⟩
  · have hl : s.length = 8 ∨ s.length = 13 := by omega
    rw [e1 hl]
    exact ⟨by simp only [inR]; omega, by omega, trivial, main hl⟩
end Go.Eng
namespace Go.Eng
open Go.Proofs Go.RowKit
variable {C : Ctx} [C.Loose]
set_option maxRecDepth 20000
theorem nf_fold (n k : Int) (R : AV → List (Nat × AObj) → Prop) : wpFn te [] [] 0 Tryz.f23 [.int .i64 n, .int .i64 k] [] R = (letI z0 := (Int.tmod (IntKind.wrap IntKind.u64 n) (IntKind.wrap IntKind.u64 (max k (1 : Int)))); True ∧ True ∧ IntKind.wrap IntKind.u64 (max k (1 : Int)) ≠ (0 : Int) ∧ inR .i64 z0 ∧ R (.int .i64 z0) []) := by kernel_rfl
theorem nf_next (n : Nat) (v : Nat → Int) (a k : Int) (R : AV → List (Nat × AObj) → Prop) : wpFn te [] [] 0 Tryz.f27 [.ptr 0 0, .int .i64 k] [.cells [.view 1 n (intRow v), .int .i64 a] 28] R = (letI z1 := ([(0, .cells [.view 1 n (intRow v), .int .i64 (a + (1 : Int))] 28)] : List (Nat × AObj)); letI z0 := (IntKind.wrap IntKind.u64 (max k (1 : Int))); letI z3 := Int.tmod (IntKind.wrap IntKind.u64 0) z0; letI z2 := Int.tmod (IntKind.wrap IntKind.u64 (v (Int.toNat a))) z0; condP (decide (a < (↑n : Int))) (((0 : Int) ≤ a ∧ a < (↑n : Int) ∧ 1 = 1) ∧ inR .i64 (a + (1 : Int)) ∧ True ∧ True ∧ IntKind.wrap IntKind.u64 (max k (1 : Int)) ≠ (0 : Int) ∧ inR .i64 z2 ∧ R (.int .i64 z2) z1) (inR .i64 (a + (1 : Int)) ∧ True ∧ True ∧ IntKind.wrap IntKind.u64 (max k (1 : Int)) ≠ (0 : Int) ∧ inR .i64 z3 ∧ R (.int .i64 z3) z1)) := by kernel_rfl
theorem wrap_u64 (n : Int) : IntKind.wrap .u64 n = n % 18446744073709551616 := by
  show n % (2 : Int) ^ 64 = _
  rfl
theorem next_val {k : Int} (h : 1 ≤ k ∧ k ≤ 1000000) (x : Int) : IntKind.wrap .u64 (max k 1) ≠ 0 ∧ Int.tmod (IntKind.wrap .u64 x) (IntKind.wrap .u64 (max k 1)) = foldV x k := by
  have e : IntKind.wrap .u64 (max k 1) = k := by
    rw [wrap_u64, Int.max_eq_left h.1]
    omega
  rw [e, wrap_u64]
  have hx : 0 ≤ x % 18446744073709551616 := by omega
  rw [Int.tmod_eq_emod_of_nonneg hx]
  exact ⟨by omega, rfl⟩
theorem fold_ok (hP : C.P = Tryz.prog) : SpecOK C 23 S_fold := by
  have _ : C.Loose := inferInstance
  rintro args objs U Os vc h hvc
  unfold S_fold at h
  split at h <;> simp only [Option.some.injEq, Prod.mk.injEq, reduceCtorEq] at h
  rename_i n k
  obtain ⟨rfl, rfl, rfl⟩ := h
  refine SpecOK.wp0 (prg hP) [] 0 .nil (hP ▸ Tryz.func23) rfl rfl rfl ?_
  rw [nf_fold]
  obtain ⟨h1, h2⟩ := next_val hvc n
  have h3 := foldV_range hvc.1 n
  rw [h2]
  exact ⟨trivial, trivial, h1, by simp only [inR]; omega, rfl, rfl⟩
theorem next_ok (hP : C.P = Tryz.prog) : SpecOK C 27 S_next := by
  have _ : C.Loose := inferInstance
  rintro args objs U Os vc h hvc
  unfold S_next at h
  split at h <;> simp only [Option.some.injEq, Prod.mk.injEq, reduceCtorEq] at h
  rename_i k sz n f a t
  obtain ⟨rfl, rfl, rfl⟩ := h
  obtain ⟨rfl, rfl, hf, hk, ha⟩ := hvc
  rw [hf]
  have hv : vInt (intRow (vInt f)) = vInt f := rfl
  rw [hv]
  generalize vInt f = v at *
  refine SpecOK.wp0 (prg hP) [] 0 .nil (hP ▸ Tryz.func27) rfl rfl rfl ?_
  rw [nf_next]
  unfold nextV
  refine condP_dec (fun h => ?_) (fun h => ?_)
  · obtain ⟨h1, h2⟩ := next_val hk (v a.toNat)
    have h3 := foldV_range hk.1 (v a.toNat)
    rw [h2, decide_eq_true h]
    exact ⟨⟨by omega, by omega, rfl⟩, by simp only [inR]; omega, trivial, trivial, h1, by simp only [inR]; omega, rfl, rfl⟩
  · obtain ⟨h1, h2⟩ := next_val hk 0
    have h3 := foldV_range hk.1 0
    rw [h2, decide_eq_false h]
    exact ⟨by simp only [inR]; omega, trivial, trivial, h1, by simp only [inR]; omega, rfl, rfl⟩
theorem nf_id_round (V j : Nat) (P : Nat → Prop) (R : Exit → St → Prop) : roundP ⟨te, [], [], 0, 39, 0⟩ (loopB Tryz.f43 4) [3, 4, 5] [4] [] (S_idl V) P R (S_idl V j) = (letI z0 := (Int.tdiv (↑(pw V j) : Int) (10 : Int)); condP (decide ((0 : Int) ≤ (6 : Int) - (↑j : Int))) ((10 : Int) ≠ (0 : Int) ∧ inR .i64 ((48 : Int) + Int.tmod (↑(pw V j) : Int) (10 : Int)) ∧ inR .u8 ((48 : Int) + Int.tmod (↑(pw V j) : Int) (10 : Int)) ∧ ((0 : Int) ≤ (6 : Int) - (↑j : Int) ∧ (6 : Int) - (↑j : Int) < (↑7 : Int)) ∧ (List.length [AV.int .u8 ((48 : Int) + Int.tmod (↑(pw V j) : Int) (10 : Int))] = 1 ∧ Int.toNat ((6 : Int) - (↑j : Int)) < 7 ∧ 1 = 1) ∧ ((10 : Int) ≠ (0 : Int) ∧ inR .i64 z0) ∧ inR .i64 ((6 : Int) - (↑j : Int) - (1 : Int)) ∧ ∃ (i' : Nat), (TEq [(3, .int .i64 z0), (4, .own 0 7), (5, .int .i64 ((6 : Int) - (↑j : Int) - (1 : Int)))] [(3, .int .i64 (↑(pw V i') : Int)), (4, .own 0 7), (5, .int .i64 ((6 : Int) - (↑i' : Int)))] ∧ RowsEq [(0, .row 5 1 7 (fun (k : Nat) => if k = Int.toNat ((6 : Int) - (↑j : Int)) then [.int .u8 ((48 : Int) + Int.tmod (↑(pw V j) : Int) (10 : Int))] else [.int .u8 (bif decide (7 ≤ k + j) then dgI V k else (0 : Int))]) false)] [(0, .row 5 1 7 (fun (k : Nat) => [.int .u8 (bif decide (7 ≤ k + i') then dgI V k else (0 : Int))]) false)]) ∧ P i') ((∀ (i : Nat), i < 7 → true = true) ∧ ∃ (O' : List (Nat × AObj)), RowsEq [(0, .row 5 1 7 (fun (k : Nat) => [.int .u8 (bif decide (7 ≤ k + j) then dgI V k else (0 : Int))]) false)] O' ∧ R (.exit 0) (St.mk [(4, .own 0 7)] O' 1 []))) := by kernel_rfl
theorem nf_id (n : Int) (V : Nat) (R : AV → List (Nat × AObj) → Prop) : wpFn te [(23, .det S_fold), (85, .det S_checkDigit)] [(4, L_id V)] 2 Tryz.f43 [.int .i64 n] [] R = (letI z3 := (List.flatten (List.replicate (nat_lit 0) [.int .u8 0]) : List AV); letI z2 := cdF (bytesA 7 (idRow V)); letI z1 := TI.mk (TypeDesc.int IntKind.u8) 1 1 (Value.int IntKind.u8 0) false; letI z0 := (chunkA (TI.sz z1) (.int .u8 ((48 : Int) + Prod.fst z2) :: List.append [] z3)); ((1 : Int) ≤ (1000000 : Int) ∧ (1000000 : Int) ≤ (1000000 : Int)) ∧ inR .i64 ((1000000 : Int) + foldV n (1000000 : Int)) ∧ ((0 : Int) ≤ (7 : Int) ∧ (7 : Int) ≤ (7 : Int) ∧ (↑(TI.bytes z1) : Int) * (7 : Int) ≤ (281474976710656 : Int) ∧ (7 : Int) ≤ (9223372036854775807 : Int)) ∧ (TEq [(3, .int .i64 ((1000000 : Int) + foldV n (1000000 : Int))), (4, .own 0 7), (5, .int .i64 6)] [(3, .int .i64 (↑(pw V 0) : Int)), (4, .own 0 7), (5, .int .i64 ((6 : Int) - (↑0 : Int)))] ∧ RowsEq [(0, .row 5 1 7 (fun (_x : Nat) => [.int .u8 0]) false)] [(0, .row 5 1 7 (fun (k : Nat) => [.int .u8 (bif decide (7 ≤ k + 0) then dgI V k else (0 : Int))]) false)]) ∧ V < 2000000 ∧ ((7 ≤ 7 ∧ 1 = 1) ∧ ∀ (i : Nat), i < 7 → isU8 (idRow V i) = true) ∧ True ∧ ((7 ≤ 7 ∧ 1 = 1) ∧ ∀ (i : Nat), i < 7 → isU8 (idRow V i) = true) ∧ inR .i64 ((48 : Int) + Prod.fst z2) ∧ inR .u8 ((48 : Int) + Prod.fst z2) ∧ (1 ≤ 16777216 ∧ 1 = 1 ∧ 1 ≤ 9223372036854775807) ∧ ((1 ≤ 1 ∧ 1 = 1) ∧ ∀ (i : Nat), i < 1 → isU8 (chunkA (TI.sz z1) (.int .u8 ((48 : Int) + Prod.fst z2) :: List.append [] z3) i) = true) ∧ List.length (bytesA 7 (idRow V)) + List.length (bytesA 1 z0) ≤ 9223372036854775807 ∧ R (.str (bytesA 7 (idRow V) ++ bytesA 1 z0)) []) := by kernel_rfl
theorem pw_step (V j : Nat) : Int.tdiv (pw V j : Nat) 10 = (pw V (j + 1) : Nat) := by
  rw [Int.tdiv_eq_ediv_of_nonneg (Int.natCast_nonneg _)]
  unfold pw
  rw [Nat.pow_succ, ← Nat.div_div_eq_div_mul]
  rfl
theorem pw_le (V j : Nat) : pw V j ≤ V := Nat.div_le_self _ _
theorem id_loop (hP : C.P = Tryz.prog) (V : Nat) : LoopOK C 0 39 (loopC Tryz.f43 4) (L_id V) := by
  have _ : C.Loose := inferInstance
  rintro st Q ⟨h0, hv, hQ⟩
  refine LoopOK.mk (prg hP) [] 0 .nil [3, 4, 5] [4] [] (S_idl V) (fun j => j ≤ 7) (fun j => 7 - j) 0 (by omega) h0 (fun j hj => ?_) (fun i => ⟨fun _ _ => rfl, trivial⟩)
  rw [nf_id_round]
  have hle := pw_le V j
  have ht : Int.tmod (pw V j : Nat) 10 = ((pw V j % 10 : Nat) : Int) := by
    rw [Int.tmod_eq_emod_of_nonneg (Int.natCast_nonneg _)]; rfl
  rw [ht, pw_step]
  have hle' := pw_le V (j + 1)
  have hm := Nat.mod_lt (pw V j) (show 0 < 10 by omega)
  refine condP_dec (fun h => ?_) (fun h => ⟨fun _ _ => rfl, _, ?_, hQ⟩)
  · refine ⟨by omega, by simp only [inR]; omega, by simp only [inR]; omega, ⟨h, by omega⟩, ⟨rfl, by omega, rfl⟩, ⟨by omega, by simp only [inR]; omega⟩, by simp only [inR]; omega, j + 1, ⟨?_, ⟨rfl, rfl, rfl, rfl, rfl, fun k hk => ?_⟩, trivial⟩, by omega, by omega⟩
    · rw [show (6 : Int) - (j : Int) - 1 = 6 - ((j + 1 : Nat) : Int) by omega]
      rfl
    · dsimp only
      split
      · rename_i e
        have e' : 6 - k = j := by omega
        rw [decide_eq_true (show 7 ≤ k + (j + 1) by omega)]
        unfold dgI
        rw [e']; rfl
      · rename_i e
        by_cases h7 : 7 ≤ k + j
        · rw [decide_eq_true h7, decide_eq_true (show 7 ≤ k + (j + 1) by omega)]
        · rw [decide_eq_false h7, decide_eq_false (show ¬ 7 ≤ k + (j + 1) by omega)]
  · have : j = 7 := by omega
    subst this
    refine ⟨⟨rfl, rfl, rfl, rfl, rfl, fun k hk => ?_⟩, trivial⟩
    dsimp only
    rw [decide_eq_true (show 7 ≤ k + 7 by omega)]
    rfl
theorem id_ok (hP : C.P = Tryz.prog) : SpecOK C 43 S_id := by
  rintro args objs U Os vc h hvc
  unfold S_id at h
  split at h <;> simp only [Option.some.injEq, Prod.mk.injEq, reduceCtorEq] at h
  rename_i n
  obtain ⟨rfl, rfl, rfl⟩ := h
  refine SpecOK.wpL (prg hP) [(23, .det S_fold), (85, .det S_checkDigit)] [(4, L_id (idV n))] 2 (.cons (fold_ok hP) (.cons (cdR_ok hP) .nil)) (hP ▸ Tryz.func43) rfl rfl rfl [(loopC Tryz.f43 4, L_id (idV n))] (by kernel_rfl) ⟨id_loop hP _, trivial⟩ ?_
  rw [nf_id]
  have hf := foldV_range (show (1 : Int) ≤ 1000000 by omega) n
  have hV : ((idV n : Nat) : Int) = 1000000 + foldV n 1000000 := by unfold idV; omega
  have hl := id7_len n
  have hc := cdF_range (id7 n)
  refine ⟨⟨by omega, by omega⟩, by simp only [inR]; omega, ⟨by omega, by omega, by decide, by omega⟩, ⟨?_, ⟨rfl, rfl, rfl, rfl, rfl, fun k hk => ?_⟩, trivial⟩, by omega, ⟨⟨by omega, rfl⟩, fun _ _ => rfl⟩, trivial, ⟨⟨by omega, rfl⟩, fun _ _ => rfl⟩, ?_, ?_, ⟨by omega, rfl, by omega⟩, ⟨⟨by omega, rfl⟩, fun i hi => ?_⟩, ?_, rfl, rfl⟩
  · rw [← hV]
    show TEq [(3, .int .i64 ((idV n : Nat) : Int)), (4, .own 0 7), (5, .int .i64 6)] [(3, .int .i64 ((idV n / 1 : Nat) : Int)), (4, .own 0 7), (5, .int .i64 6)]
    rw [Nat.div_one]; rfl
  · dsimp only
    rw [decide_eq_false (show ¬ 7 ≤ k + 0 by omega)]; rfl
  · show inR .i64 (48 + (cdF (id7 n)).1)
    simp only [inR]; omega
  · show inR .u8 (48 + (cdF (id7 n)).1)
    simp only [inR]; omega
  · obtain rfl : i = 0 := by omega
    rfl
  · show (id7 n).length + _ ≤ _
    rw [hl]; simp [bytesA]
end Go.Eng
namespace Go.Eng
open Go.Proofs Go.RowKit
variable {C : Ctx} [C.Loose]
set_option maxRecDepth 20000
theorem nf_outlet (n : Nat) (v : Nat → Int) (a : Int) (R : AV → List (Nat × AObj) → Prop) : wpFn te [(27, .det S_next)] [] 0 Tryz.f47 [.ptr 0 0] [.cells [.view 1 n (intRow v), .int .i64 a] 28] R = ((3 ≤ 16777216 ∧ 1 = 1 ∧ 3 ≤ 9223372036854775807) ∧ (28 = 28 ∧ 1 = 1 ∧ intRow v = intRow (vInt (intRow v)) ∧ ((1 : Int) ≤ (3 : Int) ∧ (3 : Int) ≤ (1000000 : Int)) ∧ (0 : Int) ≤ a ∧ a ≤ (4611686018427387904 : Int)) ∧ ((0 : Int) ≤ nextV n (vInt (intRow v)) a (3 : Int) ∧ nextV n (vInt (intRow v)) a (3 : Int) < (↑3 : Int)) ∧ (Int.toNat (nextV n (vInt (intRow v)) a (3 : Int)) < 3 ∧ 1 = 1) ∧ R (.str (List.getD [[(111 : UInt8), 49], [(111 : UInt8), 50], [(112 : UInt8)]] (Int.toNat (nextV n (vInt (intRow v)) a (3 : Int))) [])) [(0, .cells [.view 1 n (intRow v), .int .i64 (a + (1 : Int))] 28)]) := by kernel_rfl
theorem nf_tproduct (n : Nat) (v : Nat → Int) (a : Int) (R : AV → List (Nat × AObj) → Prop) : wpFn te [(27, .det S_next), (43, .det S_id)] [] 0 Tryz.f48 [.ptr 0 0] [.cells [.view 1 n (intRow v), .int .i64 a] 28] R = ((28 = 28 ∧ 1 = 1 ∧ intRow v = intRow (vInt (intRow v)) ∧ ((1 : Int) ≤ (4 : Int) ∧ (4 : Int) ≤ (1000000 : Int)) ∧ (0 : Int) ≤ a ∧ a ≤ (4611686018427387904 : Int)) ∧ True ∧ R (.str (idF (nextV n (vInt (intRow v)) a (4 : Int)))) [(0, .cells [.view 1 n (intRow v), .int .i64 (a + (1 : Int))] 28)]) := by kernel_rfl
theorem outlet_ok (hP : C.P = Tryz.prog) : SpecOK C 47 S_outlet := by
  rintro args objs U Os vc h hvc
  unfold S_outlet at h
  split at h <;> simp only [Option.some.injEq, Prod.mk.injEq, reduceCtorEq] at h
  rename_i sz n f a t
  obtain ⟨rfl, rfl, rfl⟩ := h
  obtain ⟨rfl, rfl, hf, h1, h2⟩ := hvc
  rw [hf]
  generalize vInt f = v
  have hw : vInt (intRow v) = v := rfl
  refine SpecOK.wp0 (prg hP) [(27, .det S_next)] 0 (.cons (next_ok hP) .nil) (hP ▸ Tryz.func47) rfl rfl rfl ?_
  rw [nf_outlet]
  have r := nextV_range (show (1 : Int) ≤ 3 by omega) n v a
  exact ⟨⟨by omega, rfl, by omega⟩, ⟨rfl, rfl, rfl, ⟨by omega, by omega⟩, by omega, by omega⟩, ⟨r.1, r.2⟩, ⟨by rw [hw]; omega, rfl⟩, rfl, rfl⟩
theorem tproduct_ok (hP : C.P = Tryz.prog) : SpecOK C 48 S_product := by
  rintro args objs U Os vc h hvc
  unfold S_product at h
  split at h <;> simp only [Option.some.injEq, Prod.mk.injEq, reduceCtorEq] at h
  rename_i sz n f a t
  obtain ⟨rfl, rfl, rfl⟩ := h
  obtain ⟨rfl, rfl, hf, h1, h2⟩ := hvc
  rw [hf]
  generalize vInt f = v
  have hw : vInt (intRow v) = v := rfl
  refine SpecOK.wp0 (prg hP) [(27, .det S_next), (43, .det S_id)] 0 (.cons (next_ok hP) (.cons (id_ok hP) .nil)) (hP ▸ Tryz.func48) rfl rfl rfl ?_
  rw [nf_tproduct]
  exact ⟨⟨rfl, rfl, rfl, ⟨by omega, by omega⟩, by omega, by omega⟩, trivial, rfl, rfl⟩
theorem outF_ok : ∀ i, i < 3 → nameF (List.getD [[111, 49], [111, 50], [112]] i []) = true ∧ (List.getD [[111, 49], [111, 50], [112]] i ([] : List UInt8)).length ≤ 2 := by decide +kernel
end Go.Eng
