/- Lemmas that the tied card of ScannerValid is proved by. -/
import Derived.Test.YtokpcnppihgdlaaGreatDoorGl
import Derived.Test.YtokpcnppihgdlaaGreatDoorGm
/- Functions of the library: they compute what the plain functions say. -/
namespace Go.Eng
open Go.Proofs Go.RowKit
set_option maxRecDepth 20000

theorem nf_trimLeftA (s : List UInt8) (cells : List AV) (R : AV → List (Nat × AObj) → Prop) : wpFn te [] [(1, L_trimLeftA s cells 174)] 0 Tryz.f154 [.str s, .ptr 0 0] [.cells cells 174] R = (some (St.mk [(0, .str s), (1, .ptr 0 0)] [(0, .cells (AV.rnL (ren 1 []) cells) 174)] 1 []) = some (St.mk [(0, .str s), (1, .ptr 0 0)] [(0, .cells cells 174)] 1 []) ∧ SetOK cells ∧ R (.str (List.dropWhile (inSet cells) s)) [(0, .cells (AV.rnL (ren 1 []) cells) 174)]) := by kernel_rfl
theorem nf_trimLeftA_nil (cells : List AV) (P : List UInt8 → Prop) (R : Exit → St → Prop) : roundP ⟨te, [(164, .det S_setContains)], [], 1, 16, 0⟩ (loopB Tryz.f154 1) [0, 1] [0] [0] (S_tlState cells 174) P R (S_tlState cells 174 []) = (R (.exit 0) (St.mk [(0, .str [])] [(0, .cells (AV.rnL (ren 1 []) cells) 174)] 1 [])) := by kernel_rfl
theorem nf_trimLeftA_cons (x : UInt8) (s : List UInt8) (cells : List AV) (P : List UInt8 → Prop) (R : Exit → St → Prop) : roundP ⟨te, [(164, .det S_setContains)], [], 1, 16, 0⟩ (loopB Tryz.f154 1) [0, 1] [0] [0] (S_tlState cells 174) P R (S_tlState cells 174 (x :: s)) = (condP (decide ((0 : Int) < (↑(List.length (x :: s)) : Int))) (((0 : Int) ≤ (0 : Int) ∧ (0 : Int) < (↑(List.length (x :: s)) : Int)) ∧ (SetOK (AV.rnL (idxN [0]) cells) ∧ (0 : Int) ≤ (↑(UInt8.toNat (List.getD (x :: s) (Int.toNat (0 : Int)) (0 : UInt8))) : Int) ∧ (↑(UInt8.toNat (List.getD (x :: s) (Int.toNat (0 : Int)) (0 : UInt8))) : Int) < (256 : Int)) ∧ condP (!inSet (AV.rnL (idxN [0]) cells) (UInt8.ofNat (Int.toNat (↑(UInt8.toNat (List.getD (x :: s) (Int.toNat (0 : Int)) (0 : UInt8))) : Int)))) (R (.exit 0) (St.mk [(0, .str (x :: s))] [(0, .cells (AV.rnL (ren 1 []) (AV.rnL (sig [0] 1) (AV.rnL (idxN [0]) cells))) 174)] 1 [])) (((0 : Int) ≤ (1 : Int) ∧ (1 : Int) ≤ (↑(List.length (x :: s)) : Int)) ∧ ∃ (i' : List UInt8), some (St.mk [(0, .str (List.drop (Int.toNat (1 : Int)) (x :: s))), (1, .ptr 0 0)] [(0, .cells (AV.rnL (ren 1 []) (AV.rnL (sig [0] 1) (AV.rnL (idxN [0]) cells))) 174)] 1 []) = some (St.mk [(0, .str i'), (1, .ptr 0 0)] [(0, .cells cells 174)] 1 []) ∧ P i')) (R (.exit 0) (St.mk [(0, .str (x :: s))] [(0, .cells (AV.rnL (ren 1 []) cells) 174)] 1 []))) := by kernel_rfl
theorem nf_trimRightA (s : List UInt8) (cells : List AV) (R : AV → List (Nat × AObj) → Prop) : wpFn te [] [(1, L_trimRightA s cells 174)] 0 Tryz.f155 [.str s, .ptr 0 0] [.cells cells 174] R = (some (St.mk [(0, .str s), (1, .ptr 0 0)] [(0, .cells (AV.rnL (ren 1 []) cells) 174)] 1 []) = some (St.mk [(0, .str s), (1, .ptr 0 0)] [(0, .cells cells 174)] 1 []) ∧ SetOK cells ∧ List.length s ≤ 9223372036854775807 ∧ R (.str (dropR (inSet cells) s)) [(0, .cells (AV.rnL (ren 1 []) cells) 174)]) := by kernel_rfl
theorem nf_trimRightA_round (s : List UInt8) (cells : List AV) (P : List UInt8 → Prop) (R : Exit → St → Prop) : roundP ⟨te, [(164, .det S_setContains)], [], 1, 22, 0⟩ (loopB Tryz.f155 1) [0, 1] [0] [0] (S_tlState cells 174) P R (S_tlState cells 174 s) = (condP (decide ((0 : Int) < (↑(List.length s) : Int))) (inR .i64 ((↑(List.length s) : Int) - (1 : Int)) ∧ ((0 : Int) ≤ (↑(List.length s) : Int) - (1 : Int) ∧ (↑(List.length s) : Int) - (1 : Int) < (↑(List.length s) : Int)) ∧ (SetOK (AV.rnL (idxN [0]) cells) ∧ (0 : Int) ≤ (↑(UInt8.toNat (List.getD s (Int.toNat ((↑(List.length s) : Int) - (1 : Int))) (0 : UInt8))) : Int) ∧ (↑(UInt8.toNat (List.getD s (Int.toNat ((↑(List.length s) : Int) - (1 : Int))) (0 : UInt8))) : Int) < (256 : Int)) ∧ condP (!inSet (AV.rnL (idxN [0]) cells) (UInt8.ofNat (Int.toNat (↑(UInt8.toNat (List.getD s (Int.toNat ((↑(List.length s) : Int) - (1 : Int))) (0 : UInt8))) : Int)))) (R (.exit 0) (St.mk [(0, .str s)] [(0, .cells (AV.rnL (ren 1 []) (AV.rnL (sig [0] 1) (AV.rnL (idxN [0]) cells))) 174)] 1 [])) (inR .i64 ((↑(List.length s) : Int) - (1 : Int)) ∧ ((0 : Int) ≤ (↑(List.length s) : Int) - (1 : Int) ∧ (↑(List.length s) : Int) - (1 : Int) ≤ (↑(List.length s) : Int)) ∧ ∃ (i' : List UInt8), some (St.mk [(0, .str (List.take (Int.toNat ((↑(List.length s) : Int) - (1 : Int))) s)), (1, .ptr 0 0)] [(0, .cells (AV.rnL (ren 1 []) (AV.rnL (sig [0] 1) (AV.rnL (idxN [0]) cells))) 174)] 1 []) = some (St.mk [(0, .str i'), (1, .ptr 0 0)] [(0, .cells cells 174)] 1 []) ∧ P i')) (R (.exit 0) (St.mk [(0, .str s)] [(0, .cells (AV.rnL (ren 1 []) cells) 174)] 1 []))) := by kernel_rfl
theorem nf_trim (s cs : List UInt8) (R : AV → List (Nat × AObj) → Prop) : wpFn te [(154, .det S_trimLeftA), (155, .det S_trimRightA)] [(1005, L_trimSet s cs)] 0 Tryz.f142 [.str s, .str cs] [] R = (condP (decide (s = [])) (R (.str s) []) (condP (decide (cs = [])) (R (.str s) []) (condP (decide ((↑(List.length cs) : Int) = (1 : Int))) (((0 : Int) ≤ (0 : Int) ∧ (0 : Int) < (↑(List.length cs) : Int)) ∧ condP (decide ((↑(UInt8.toNat (List.getD cs (Int.toNat (0 : Int)) (0 : UInt8))) : Int) < (128 : Int))) (((0 : Int) ≤ (0 : Int) ∧ (0 : Int) < (↑(List.length cs) : Int)) ∧ False) (some (St.mk [(0, .str s), (1, .str cs)] [] 0 []) = some (St.mk [(0, .str s), (1, .str cs)] [] 0 []) ∧ List.length cs < 4294967281 ∧ (∀ (b : UInt8), b ∈ cs → UInt8.toNat b < 128) ∧ (SetOK (AV.rnL (idxN [0]) (setAV cs)) ∧ List.length s ≤ 9223372036854775807) ∧ SetOK (AV.rnL (idxN [0]) (AV.rnL (sig [0] 1) (AV.rnL (idxN [0]) (setAV cs)))) ∧ R (.str (List.dropWhile (inSet (AV.rnL (idxN [0]) (AV.rnL (sig [0] 1) (AV.rnL (idxN [0]) (setAV cs))))) (dropR (inSet (AV.rnL (idxN [0]) (setAV cs))) s))) [])) (some (St.mk [(0, .str s), (1, .str cs)] [] 0 []) = some (St.mk [(0, .str s), (1, .str cs)] [] 0 []) ∧ List.length cs < 4294967281 ∧ (∀ (b : UInt8), b ∈ cs → UInt8.toNat b < 128) ∧ (SetOK (AV.rnL (idxN [0]) (setAV cs)) ∧ List.length s ≤ 9223372036854775807) ∧ SetOK (AV.rnL (idxN [0]) (AV.rnL (sig [0] 1) (AV.rnL (idxN [0]) (setAV cs)))) ∧ R (.str (List.dropWhile (inSet (AV.rnL (idxN [0]) (AV.rnL (sig [0] 1) (AV.rnL (idxN [0]) (setAV cs))))) (dropR (inSet (AV.rnL (idxN [0]) (setAV cs))) s))) [])))) := by kernel_rfl


variable {C : Ctx} [C.Loose]

theorem mem2 {α : Type} {l : List α} (h : l.length = 2) : ∃ a b, l = [a, b] := by
  match l, h with
  | [a, b], _ => exact ⟨a, b, rfl⟩
theorem mem1 {α : Type} {l : List α} (h : l.length = 1) : ∃ a, l = [a] := by
  match l, h with
  | [a], _ => exact ⟨a, rfl⟩

theorem setContains_ok (hP : C.P = Tryz.prog) : SpecOK C 164 S_setContains := by
  have _ : C.Loose := inferInstance
  rintro args objs U Os vc h hvc
  unfold S_setContains at h
  split at h <;> simp only [Option.some.injEq, Prod.mk.injEq, reduceCtorEq] at h
  rename_i x cells t
  obtain ⟨rfl, rfl, rfl⟩ := h
  obtain ⟨hc, h0, h1⟩ := hvc
  obtain ⟨n, rfl⟩ : ∃ n : UInt8, x = n.toNat := ⟨UInt8.ofNat x.toNat, by simp; omega⟩
  refine ACalls.quiet ⟨Tryz.f164, hP ▸ Tryz.func164, rfl, by decide⟩ fun E bs w cargs hW hl hv => ?_
  obtain ⟨a, b, rfl⟩ := mem2 hl
  have e2 := (hv 1 _ _ rfl rfl).int_iff
  subst e2
  obtain ⟨b, y, rfl, hcc, hy⟩ := hW.cell (r := 0) rfl (hv 0 _ _ rfl rfl) (hc.at_ n)
  cases hy
  rw [hP]
  refine (Tryz.asciiSet_contains b n _ w hcc).mono ?_
  rintro e w' ⟨rfl, rfl⟩
  refine ⟨_, rfl, rfl, ?_⟩
  have : UInt8.ofNat (n.toNat : Int).toNat = n := by simp
  rw [this]
  exact .bool

theorem trimLeftA_loop (hP : C.P = Tryz.prog) (s : List UInt8) (cells : List AV) : LoopOK C 1 16 (loopC Tryz.f154 1) (L_trimLeftA s cells 174) := by
  rintro st Q ⟨h0, hc, hQ⟩
  refine LoopOK.mk (prg hP) [(164, .det S_setContains)] 0 (.cons (setContains_ok hP) .nil) [0, 1] [0] [0] (S_tlState cells 174) (fun s' => s'.dropWhile (inSet cells) = s.dropWhile (inSet cells)) List.length s rfl h0 fun s' hs' => ?_
  have hrn := hc.rn
  cases s' with
  | nil =>
    rw [nf_trimLeftA_nil]
    simp only [hrn]
    rw [← hs'] at hQ
    exact hQ
  | cons x r =>
    rw [nf_trimLeftA_cons]
    simp only [hrn]
    have ex : UInt8.ofNat (Int.toNat (↑(UInt8.toNat (List.getD (x :: r) (Int.toNat 0) 0)))) = x := by simp
    have hx : (List.getD (x :: r) (Int.toNat 0) 0) = x := rfl
    have hlt : x.toNat < 256 := x.toNat_lt
    have hlen : (((x :: r).length : Nat) : Int) = (r.length : Int) + 1 := by simp
    rw [hx] at ex
    simp only [hx, ex, hlen]
    refine condP_intro (fun _ => ⟨by omega, ⟨hc, by omega, by omega⟩, condP_intro (fun h => ?_) (fun h => ?_)⟩) (fun h => ?_)
    · have h : inSet cells x = false := by simpa using h
      rw [← hs', List.dropWhile_cons, h] at hQ
      exact hQ
    · have h : inSet cells x = true := by simpa using h
      refine ⟨by omega, r, rfl, ?_, by simp⟩
      rw [← hs', List.dropWhile_cons, h]; rfl
    · have := of_decide_eq_false h; omega

theorem trimLeftA_ok (hP : C.P = Tryz.prog) : SpecOK C 154 S_trimLeftA := by
  rintro args objs U Os vc h hvc
  unfold S_trimLeftA at h
  split at h <;> simp only [Option.some.injEq, Prod.mk.injEq, reduceCtorEq] at h
  rename_i s cells
  obtain ⟨rfl, rfl, rfl⟩ := h
  refine SpecOK.wpL (prg hP) [] [(1, L_trimLeftA s cells 174)] 0 .nil (hP ▸ Tryz.func154) rfl rfl rfl [(loopC Tryz.f154 1, L_trimLeftA s cells 174)] (by kernel_rfl) ⟨trimLeftA_loop hP s cells, trivial⟩ ?_
  rw [nf_trimLeftA]
  simp only [hvc.rn]
  exact ⟨trivial, hvc, by simp⟩

theorem trimRightA_loop (hP : C.P = Tryz.prog) (s : List UInt8) (cells : List AV) : LoopOK C 1 22 (loopC Tryz.f155 1) (L_trimRightA s cells 174) := by
  rintro st Q ⟨h0, hc, hm, hQ⟩
  refine LoopOK.mk (prg hP) [(164, .det S_setContains)] 0 (.cons (setContains_ok hP) .nil) [0, 1] [0] [0] (S_tlState cells 174) (fun s' => dropR (inSet cells) s' = dropR (inSet cells) s ∧ s'.length ≤ maxLen) List.length s ⟨rfl, hm⟩ h0 fun s' hs' => ?_
  have hrn := hc.rn
  obtain ⟨hs', hm'⟩ := hs'
  have hm2 : s'.length ≤ 9223372036854775807 := hm'
  rw [nf_trimRightA_round]
  simp only [hrn]
  rcases snoc_cases s' with rfl | ⟨r, x, rfl⟩
  · refine condP_intro (fun h => ?_) (fun _ => ?_)
    · have := of_decide_eq_true h; simp at this
    · rw [← hs'] at hQ; exact hQ
  · have hlen : (((r ++ [x]).length : Nat) : Int) = (r.length : Int) + 1 := by simp
    have e1 : ((r.length : Int) + 1 - 1).toNat = r.length := by omega
    have hx : (r ++ [x]).getD r.length 0 = x := by simp
    have ht : (r ++ [x]).take r.length = r := by simp
    have ex : UInt8.ofNat ((x.toNat : Int)).toNat = x := by simp
    have hlt : x.toNat < 256 := x.toNat_lt
    have hlr : (r ++ [x]).length = r.length + 1 := by simp
    simp only [hlen, e1, hx, ht, ex, inR]
    refine condP_intro (fun _ => ⟨by omega, by omega, ⟨hc, by omega, by omega⟩, condP_intro (fun h => ?_) (fun h => ?_)⟩) (fun h => ?_)
    · have h : inSet cells x = false := by simpa using h
      rw [← hs', dropR_snoc, h] at hQ
      exact hQ
    · have h : inSet cells x = true := by simpa using h
      refine ⟨by omega, by omega, r, rfl, ⟨?_, ?_⟩, by omega⟩
      · rw [← hs', dropR_snoc, h]; rfl
      · show r.length ≤ 9223372036854775807
        omega
    · have := of_decide_eq_false h; omega

theorem trimRightA_ok (hP : C.P = Tryz.prog) : SpecOK C 155 S_trimRightA := by
  rintro args objs U Os vc h hvc
  unfold S_trimRightA at h
  split at h <;> simp only [Option.some.injEq, Prod.mk.injEq, reduceCtorEq] at h
  rename_i s cells
  obtain ⟨rfl, rfl, rfl⟩ := h
  refine SpecOK.wpL (prg hP) [] [(1, L_trimRightA s cells 174)] 0 .nil (hP ▸ Tryz.func155) rfl rfl rfl [(loopC Tryz.f155 1, L_trimRightA s cells 174)] (by kernel_rfl) ⟨trimRightA_loop hP s cells, trivial⟩ ?_
  rw [nf_trimRightA]
  simp only [hvc.1.rn]
  exact ⟨trivial, hvc.1, hvc.2, by simp⟩


theorem setCells_V {w : World} {M : Nat → Prop} {bs : Nat → Option Hd} (l : List UInt8) : CellsV w M bs (Lib.setCells l) (setAV l) := by
  have hs : (Lib.setCells l).size = 256 := Lib.setCells_size l
  have hl : (setAV l).length = 256 := (setAV_ok l).1
  have at_ : ∀ j, j < 256 → (Lib.setCells l)[j]? = some (.bool (l.contains (UInt8.ofNat j))) := by
    intro j hj
    have := Lib.setCells_at l (UInt8.ofNat j)
    have e : (UInt8.ofNat j).toNat = j := by simp; omega
    rwa [e] at this
  refine ⟨by rw [hs, hl], fun j v hv => ?_, fun j v u hv hu => ?_⟩
  · have hj : j < 256 := by rw [← hs]; exact (Array.getElem?_eq_some_iff.1 hv).1
    rw [at_ j hj] at hv
    cases hv; rfl
  · have hj : j < 256 := by rw [← hs]; exact (Array.getElem?_eq_some_iff.1 hv).1
    rw [at_ j hj] at hv
    cases hv
    have : (setAV l)[j]? = some (.bool (l.contains (UInt8.ofNat j))) := by unfold setAV; simp [hj]
    rw [this] at hu
    cases hu
    exact .bool

theorem makeSet_ok (hP : C.P = Tryz.prog) : SpecOK C 153 S_makeSet := by
  rintro args objs U Os vc h hvc
  unfold S_makeSet at h
  split at h <;> simp only [Option.some.injEq, Prod.mk.injEq, reduceCtorEq] at h
  rename_i l
  obtain ⟨rfl, rfl, rfl⟩ := h
  obtain ⟨hl, hascii⟩ := hvc
  refine ACalls.below ⟨Tryz.f153, hP ▸ Tryz.func153, rfl, by decide⟩ fun w M cargs _ _ hM hlen hv => ?_
  obtain ⟨a, rfl⟩ := mem1 hlen
  have e1 := (hv 0 _ _ rfl rfl).str_iff
  subst e1
  rw [hP]
  refine (Tryz.strings_makeASCIISet (fun w => Tryz.zeroValue174 w) ⟨l.toArray⟩ w (by simpa [ByteArray.size] using hl) (fun j b hb => hascii b (by simpa using List.mem_of_getElem? hb))).mono ?_
  rintro e w' ⟨rfl, rfl⟩
  have hc := setCells_V (w := w.alloc (.cells (Lib.setCells l) 174)) (M := M) (bs := nob) l
  refine ⟨_, rfl, (Below.refl _ _).alloc (Nat.le_refl _) _, .tuple rfl fun j v u hv hu => ?_⟩
  match j with
  | 0 => simp at hv hu; subst hv; subst hu; exact .agg hc.1 hc.2.1 hc.2.2
  | 1 => simp at hv hu; subst hv; subst hu; exact .bool
  | j + 2 => simp at hv

def teSet : TE := [(174, { desc := .array 256 4, sz := 256, bytes := 256, zero := .agg (Array.replicate 256 (.bool false)) })]

@[irreducible] def zeroSet : List AV := List.replicate 256 (.bool false)

theorem avcs_bool (n : Nat) : avcs (List.replicate n (.bool false)) = some (List.replicate n (.bool false)) := by
  induction n with
  | zero => rfl
  | succ n ih => simp [List.replicate_succ, avcs, avc, ih]

theorem teSet_ok : TE.ok Tryz.prog teSet := by
  refine TE.ok_cons Tryz.underlying174 ⟨Tryz.t174, Tryz.type174, rfl, rfl, by kernel_rfl⟩ (fun h => by cases h) TE.ok_nil

theorem zeroSet_of : avcs (Value.agg (Array.replicate 256 (.bool false))).cells.toList = some zeroSet := by
  have e : (Value.agg (Array.replicate 256 (.bool false))).cells.toList = List.replicate 256 (Value.bool false) := Array.toList_replicate
  rw [e]
  unfold zeroSet
  exact avcs_bool 256

theorem zeroSet_len (cs : List UInt8) : zeroSet.length = (setAV cs).length := by
  rw [(setAV_ok cs).1]
  unfold zeroSet
  rw [List.length_replicate]

theorem trimSet_ok (hP : C.P = Tryz.prog) (s cs : List UInt8) : LoopOK C 0 43 (regC Tryz.f142 5) (L_trimSet s cs) := by
  rintro st Q ⟨h0, hl, hascii, hQ⟩
  refine AWP.canonIs [0, 1] h0 ?_ trivial
  have hte := (prg hP).ok
  have hts : TE.ok C.P teSet := hP ▸ teSet_ok
  have hrn := (setAV_ok cs).rn
  refine AWP.canQ (te := te) (Fe := [0, 5, 6]) (Fr := []) ?_
  show AWP C 0 43 (.region 5 (List.toArray _) false) _ _
  refine AWP.region ?_
  refine AOps.pure hte (prg hP).one rfl rfl rfl trivial ?_
  refine AOps.callD (u2 := .nil) (cobjs := []) (U := .tuple [.agg (setAV cs), .bool true]) (Os := []) (T2 := [(31, .tuple [.agg (setAV cs), .bool true]), (30, .str cs), (0, .str s), (1, .str cs)]) [] rfl rfl rfl rfl rfl rfl trivial (makeSet_ok hP [.str cs] [] _ _ _ rfl ⟨hl, hascii⟩) rfl ?_ rfl rfl ?_
  · show (31, AV.tuple [.agg (AV.rnL _ (setAV cs)), .bool true]) :: _ = _
    rw [hrn]; rfl
  refine AOps.pure hte (prg hP).one rfl rfl rfl trivial ?_
  refine AOps.pure hte (prg hP).one rfl rfl rfl trivial ?_
  refine AOps.pure hte (prg hP).one rfl rfl rfl trivial ?_
  refine AOps.step (l := [(_, .cells zeroSet 174)]) rfl (OpStep.allocW hts (t := 174) rfl rfl rfl zeroSet_of) rfl rfl rfl rfl ?_
  refine AOps.step rfl (OpStep.storeW hts (t := 174) (new := setAV cs) rfl rfl rfl rfl rfl rfl (zeroSet_len cs) (setAV_ok cs).1) rfl rfl rfl rfl ?_
  refine AOps.pure hte (prg hP).one rfl rfl rfl trivial ?_
  refine AOps.nil ?_
  refine canQ_of (s' := ⟨[(0, .str s), (5, .ptr 0 0), (6, .bool true)], [(0, .cells (AV.rnL (ren 0 [(16, 0)]) (setAV cs)) 174)], 1, []⟩) (by simp) ?_ ?_
  · rfl
  · rw [hrn]; exact hQ

theorem trim_ok (hP : C.P = Tryz.prog) : SpecOK C 142 S_trim := by
  rintro args objs U Os vc h hvc
  unfold S_trim at h
  split at h <;> simp only [Option.some.injEq, Prod.mk.injEq, reduceCtorEq] at h
  rename_i s cs
  obtain ⟨rfl, rfl, rfl⟩ := h
  obtain ⟨hs, h2, hl, hascii⟩ := hvc
  refine SpecOK.wpL (prg hP) [(154, .det S_trimLeftA), (155, .det S_trimRightA)] [(1005, L_trimSet s cs)] 0 (.cons (trimLeftA_ok hP) (.cons (trimRightA_ok hP) .nil)) (hP ▸ Tryz.func142) rfl rfl rfl
    [(regC Tryz.f142 5, L_trimSet s cs)] (by kernel_rfl) ⟨trimSet_ok hP s cs, trivial⟩ ?_
  rw [nf_trim]
  have hrn := (setAV_ok cs).rn
  have hc1 : ∀ h : (cs.length : Int) = 1, False := by intro h; omega
  have hin : inSet (setAV cs) = (cs.contains ·) := funext (inSet_setAV cs)
  simp only [hrn, hin]
  refine condP_intro (fun h => ?_) (fun _ => condP_intro (fun h => ?_) (fun _ => condP_intro (fun h => ?_) (fun _ => ?_)))
  · have h := of_decide_eq_true h
    subst h
    simp [trimF, dropR]
  · have h := of_decide_eq_true h
    subst h
    simp at h2
  · exact (hc1 (of_decide_eq_true h)).elim
  · exact ⟨trivial, hl, hascii, ⟨setAV_ok cs, hs⟩, setAV_ok cs, rfl, trivial⟩

end Go.Eng
/- Codes of classifications. -/
namespace Go.Eng
open Go.Proofs Go.RowKit
set_option maxRecDepth 20000
theorem nf_min (n : Nat) (v : Nat → Int) (R : AV → List (Nat × AObj) → Prop) : wpFn te [] [(5, L_mm n v (minV v)), (1002, fun _ _ => False)] 0 Tryz.f170 [.own 0 n] [.row 3 1 n (fun i => [.int .i64 (v i)]) false] R = (condP (decide ((↑n : Int) < (1 : Int))) False (((0 : Int) ≤ (0 : Int) ∧ (0 : Int) < (↑n : Int)) ∧ (0 < n ∧ 1 = 1) ∧ (TEq [(0, .own 0 n), (3, .int .i64 (v 0)), (4, .int .i64 1)] [(0, .own 0 n), (3, .int .i64 (minV v 0)), (4, .int .i64 ((↑0 : Int) + (1 : Int)))] ∧ RowsEq [(0, .row 3 1 n (fun (i : Nat) => [.int .i64 (v i)]) false)] [(0, .row 3 1 n (fun (i : Nat) => [.int .i64 (v i)]) false)]) ∧ 1 ≤ n ∧ n ≤ 4611686018427387904 ∧ (∀ (i : Nat), i < n → true = true) ∧ ∃ (O' : List (Nat × AObj)), RowsEq [(0, .row 3 1 n (fun (i : Nat) => [.int .i64 (v i)]) false)] O' ∧ R (.int .i64 (minV v (n - 1))) O')) := by kernel_rfl
theorem nf_min_round (n : Nat) (v : Nat → Int) (k : Nat) (P : Nat → Prop) (R : Exit → St → Prop) : roundP ⟨te, [], [], 1, 25, 0⟩ (loopB Tryz.f170 5) [0, 3, 4] [3] [] (S_mmState n v (minV v)) P R (S_mmState n v (minV v) k) = (condP (decide ((↑k : Int) + (1 : Int) < (↑n : Int))) (((0 : Int) ≤ (↑k : Int) + (1 : Int) ∧ (↑k : Int) + (1 : Int) < (↑n : Int)) ∧ (Int.toNat ((↑k : Int) + (1 : Int)) < n ∧ 1 = 1) ∧ inR .i64 ((↑k : Int) + (1 : Int) + (1 : Int)) ∧ ∃ (i' : Nat), (TEq [(0, .own 0 n), (3, .int .i64 (min (minV v k) (v (Int.toNat ((↑k : Int) + (1 : Int)))))), (4, .int .i64 ((↑k : Int) + (1 : Int) + (1 : Int)))] [(0, .own 0 n), (3, .int .i64 (minV v i')), (4, .int .i64 ((↑i' : Int) + (1 : Int)))] ∧ RowsEq [(0, .row 3 1 n (fun (i : Nat) => [.int .i64 (v i)]) false)] [(0, .row 3 1 n (fun (i : Nat) => [.int .i64 (v i)]) false)]) ∧ P i') ((∀ (i : Nat), i < n → true = true) ∧ ∃ (O' : List (Nat × AObj)), RowsEq [(0, .row 3 1 n (fun (i : Nat) => [.int .i64 (v i)]) false)] O' ∧ R (.exit 0) (St.mk [(3, .int .i64 (minV v k))] O' 1 []))) := by kernel_rfl
theorem nf_max (n : Nat) (v : Nat → Int) (R : AV → List (Nat × AObj) → Prop) : wpFn te [] [(5, L_mm n v (maxV v)), (1002, fun _ _ => False)] 0 Tryz.f171 [.own 0 n] [.row 3 1 n (fun i => [.int .i64 (v i)]) false] R = (condP (decide ((↑n : Int) < (1 : Int))) False (((0 : Int) ≤ (0 : Int) ∧ (0 : Int) < (↑n : Int)) ∧ (0 < n ∧ 1 = 1) ∧ (TEq [(0, .own 0 n), (3, .int .i64 (v 0)), (4, .int .i64 1)] [(0, .own 0 n), (3, .int .i64 (maxV v 0)), (4, .int .i64 ((↑0 : Int) + (1 : Int)))] ∧ RowsEq [(0, .row 3 1 n (fun (i : Nat) => [.int .i64 (v i)]) false)] [(0, .row 3 1 n (fun (i : Nat) => [.int .i64 (v i)]) false)]) ∧ 1 ≤ n ∧ n ≤ 4611686018427387904 ∧ (∀ (i : Nat), i < n → true = true) ∧ ∃ (O' : List (Nat × AObj)), RowsEq [(0, .row 3 1 n (fun (i : Nat) => [.int .i64 (v i)]) false)] O' ∧ R (.int .i64 (maxV v (n - 1))) O')) := by kernel_rfl
theorem nf_max_round (n : Nat) (v : Nat → Int) (k : Nat) (P : Nat → Prop) (R : Exit → St → Prop) : roundP ⟨te, [], [], 1, 25, 0⟩ (loopB Tryz.f171 5) [0, 3, 4] [3] [] (S_mmState n v (maxV v)) P R (S_mmState n v (maxV v) k) = (condP (decide ((↑k : Int) + (1 : Int) < (↑n : Int))) (((0 : Int) ≤ (↑k : Int) + (1 : Int) ∧ (↑k : Int) + (1 : Int) < (↑n : Int)) ∧ (Int.toNat ((↑k : Int) + (1 : Int)) < n ∧ 1 = 1) ∧ inR .i64 ((↑k : Int) + (1 : Int) + (1 : Int)) ∧ ∃ (i' : Nat), (TEq [(0, .own 0 n), (3, .int .i64 (max (maxV v k) (v (Int.toNat ((↑k : Int) + (1 : Int)))))), (4, .int .i64 ((↑k : Int) + (1 : Int) + (1 : Int)))] [(0, .own 0 n), (3, .int .i64 (maxV v i')), (4, .int .i64 ((↑i' : Int) + (1 : Int)))] ∧ RowsEq [(0, .row 3 1 n (fun (i : Nat) => [.int .i64 (v i)]) false)] [(0, .row 3 1 n (fun (i : Nat) => [.int .i64 (v i)]) false)]) ∧ P i') ((∀ (i : Nat), i < n → true = true) ∧ ∃ (O' : List (Nat × AObj)), RowsEq [(0, .row 3 1 n (fun (i : Nat) => [.int .i64 (v i)]) false)] O' ∧ R (.exit 0) (St.mk [(3, .int .i64 (maxV v k))] O' 1 []))) := by kernel_rfl
theorem nf_format (n : Nat) (v : Nat → Int) (R : AV → List (Nat × AObj) → Prop) : wpFn te [(170, .det S_min), (171, .det S_max), (172, .det S_itoa)] [(7, L_fmt n v)] 0 Tryz.f160 [.own 0 n] [.row 3 1 n (fun i => [.int .i64 (v i)]) false] R = (condP (decide ((↑n : Int) < (1 : Int))) ((∀ (i : Nat), i < n → true = true) ∧ ∃ (O' : List (Nat × AObj)), RowsEq [(0, .row 3 1 n (fun (i : Nat) => [.int .i64 (v i)]) false)] O' ∧ R (.tuple [.str [], .int .i64 64]) O') (condP (decide ((5 : Int) < (↑n : Int))) ((∀ (i : Nat), i < n → true = true) ∧ ∃ (O' : List (Nat × AObj)), RowsEq [(0, .row 3 1 n (fun (i : Nat) => [.int .i64 (v i)]) false)] O' ∧ R (.tuple [.str [], .int .i64 64]) O') ((∀ (i : Nat), i < n → true = true) ∧ (3 = 3 ∧ false = false ∧ 1 ≤ n ∧ n = n ∧ n ≤ 4611686018427387904 ∧ (fun (i : Nat) => [.int .i64 (v i)]) = intRow (vInt fun (i : Nat) => [.int .i64 (v i)])) ∧ (∀ (i : Nat), i < n → true = true) ∧ condP (decide (minV (vInt fun (i : Nat) => [.int .i64 (v i)]) (n - 1) < (1 : Int))) ((∀ (i : Nat), i < n → true = true) ∧ ∃ (O' : List (Nat × AObj)), RowsEq [(0, .row 3 1 n (fun (i : Nat) => [.int .i64 (v i)]) false)] O' ∧ R (.tuple [.str [], .int .i64 64]) O') ((∀ (i : Nat), i < n → true = true) ∧ (3 = 3 ∧ false = false ∧ 1 ≤ n ∧ n = n ∧ n ≤ 4611686018427387904 ∧ (fun (i : Nat) => [.int .i64 (v i)]) = intRow (vInt fun (i : Nat) => [.int .i64 (v i)])) ∧ (∀ (i : Nat), i < n → true = true) ∧ condP (decide ((99 : Int) < maxV (vInt fun (i : Nat) => [.int .i64 (v i)]) (n - 1))) ((∀ (i : Nat), i < n → true = true) ∧ ∃ (O' : List (Nat × AObj)), RowsEq [(0, .row 3 1 n (fun (i : Nat) => [.int .i64 (v i)]) false)] O' ∧ R (.tuple [.str [], .int .i64 64]) O') (((0 : Int) ≤ (0 : Int) ∧ (0 : Int) < (↑n : Int)) ∧ (0 < n ∧ 1 = 1) ∧ ((0 : Int) ≤ v 0 ∧ v 0 < (100 : Int)) ∧ ((0 : Int) ≤ (0 : Int) ∧ (0 : Int) < (↑n : Int)) ∧ (0 < n ∧ 1 = 1) ∧ condP (decide (v 0 < (10 : Int))) (List.length ([(48 : UInt8)]) + List.length (decF (v 0)) ≤ 9223372036854775807 ∧ ((0 : Int) ≤ (1 : Int) ∧ (1 : Int) ≤ (↑n : Int)) ∧ (TEq [(4, .str ([(48 : UInt8)] ++ decF (v 0))), (36, .sub 0 1 1 (n - Int.toNat (1 : Int))), (37, .int .i64 (↑(n - Int.toNat (1 : Int)) : Int)), (38, .int .i64 0)] [(4, .str (fmtHead (v 0) ++ fmtRest v 0)), (36, .sub 0 1 1 (n - 1)), (37, .int .i64 (↑(n - 1) : Int)), (38, .int .i64 (↑0 : Int))] ∧ RowsEq [(0, .row 3 1 n (fun (i : Nat) => [.int .i64 (v i)]) false)] [(0, .row 3 1 n (fun (i : Nat) => [.int .i64 (v i)]) false)]) ∧ fmtOK n v = true ∧ (∀ (i : Nat), i < n → true = true) ∧ ∃ (O' : List (Nat × AObj)), RowsEq [(0, .row 3 1 n (fun (i : Nat) => [.int .i64 (v i)]) false)] O' ∧ R (.tuple [.str (fmtZ n v), .int .i64 0]) O') (((0 : Int) ≤ (1 : Int) ∧ (1 : Int) ≤ (↑n : Int)) ∧ (TEq [(4, .str (decF (v 0))), (36, .sub 0 1 1 (n - Int.toNat (1 : Int))), (37, .int .i64 (↑(n - Int.toNat (1 : Int)) : Int)), (38, .int .i64 0)] [(4, .str (fmtHead (v 0) ++ fmtRest v 0)), (36, .sub 0 1 1 (n - 1)), (37, .int .i64 (↑(n - 1) : Int)), (38, .int .i64 (↑0 : Int))] ∧ RowsEq [(0, .row 3 1 n (fun (i : Nat) => [.int .i64 (v i)]) false)] [(0, .row 3 1 n (fun (i : Nat) => [.int .i64 (v i)]) false)]) ∧ fmtOK n v = true ∧ (∀ (i : Nat), i < n → true = true) ∧ ∃ (O' : List (Nat × AObj)), RowsEq [(0, .row 3 1 n (fun (i : Nat) => [.int .i64 (v i)]) false)] O' ∧ R (.tuple [.str (fmtZ n v), .int .i64 0]) O')))))) := by kernel_rfl
theorem nf_format_round (n : Nat) (v : Nat → Int) (k : Nat) (P : Nat → Prop) (R : Exit → St → Prop) : roundP ⟨te, [(172, .det S_itoa)], [], 1, 49, 0⟩ (loopB Tryz.f160 7) [4, 36, 37, 38] [4] [] (S_fmtState n v) P R (S_fmtState n v k) = (condP (decide ((↑k : Int) < (↑(n - 1) : Int))) (((0 : Int) ≤ (↑k : Int) ∧ (↑k : Int) < (↑(n - 1) : Int) ∧ 1 = 1) ∧ (1 + Int.toNat (↑k : Int) < n ∧ 1 = 1) ∧ ((0 : Int) ≤ v (1 + Int.toNat (↑k : Int)) ∧ v (1 + Int.toNat (↑k : Int)) < (100 : Int)) ∧ List.length ([(46 : UInt8)]) + List.length (decF (v (1 + Int.toNat (↑k : Int)))) ≤ 9223372036854775807 ∧ List.length (fmtHead (v 0) ++ fmtRest v k) + List.length ([(46 : UInt8)] ++ decF (v (1 + Int.toNat (↑k : Int)))) ≤ 9223372036854775807 ∧ inR .i64 ((↑k : Int) + (1 : Int)) ∧ ∃ (i' : Nat), (TEq [(4, .str (fmtHead (v 0) ++ fmtRest v k ++ ([(46 : UInt8)] ++ decF (v (1 + Int.toNat (↑k : Int)))))), (36, .sub 0 1 1 (n - 1)), (37, .int .i64 (↑(n - 1) : Int)), (38, .int .i64 ((↑k : Int) + (1 : Int)))] [(4, .str (fmtHead (v 0) ++ fmtRest v i')), (36, .sub 0 1 1 (n - 1)), (37, .int .i64 (↑(n - 1) : Int)), (38, .int .i64 (↑i' : Int))] ∧ RowsEq [(0, .row 3 1 n (fun (i : Nat) => [.int .i64 (v i)]) false)] [(0, .row 3 1 n (fun (i : Nat) => [.int .i64 (v i)]) false)]) ∧ P i') ((∀ (i : Nat), i < n → true = true) ∧ ∃ (O' : List (Nat × AObj)), RowsEq [(0, .row 3 1 n (fun (i : Nat) => [.int .i64 (v i)]) false)] O' ∧ R (.exit 0) (St.mk [(4, .str (fmtHead (v 0) ++ fmtRest v k))] O' 1 []))) := by kernel_rfl

variable {C : Ctx} [C.Loose]

theorem min_loop (hP : C.P = Tryz.prog) (n : Nat) (v : Nat → Int) : LoopOK C 1 25 (loopC Tryz.f170 5) (L_mm n v (minV v)) := by
  have _ : C.Loose := inferInstance
  rintro st Q ⟨h0, hn, hn2, hQ⟩
  refine LoopOK.mk (prg hP) [] 0 .nil [0, 3, 4] [3] [] (S_mmState n v (minV v)) (fun k => k + 1 ≤ n) (fun k => n - k) 0 hn h0 (fun k hk => ?_) (fun i => ⟨fun _ _ => rfl, trivial⟩)
  rw [nf_min_round]
  refine condP_dec (fun h => ?_) (fun h => ⟨fun _ _ => rfl, _, rowsEq1, ?_⟩)
  · have e : ((k : Int) + 1).toNat = k + 1 := by omega
    simp only [inR, e, and_true]
    exact ⟨by omega, by omega, by omega, k + 1, ⟨rfl, rowsEq1⟩, by omega, by omega⟩
  · have : k = n - 1 := by omega
    rw [this]; exact hQ

theorem max_loop (hP : C.P = Tryz.prog) (n : Nat) (v : Nat → Int) : LoopOK C 1 25 (loopC Tryz.f171 5) (L_mm n v (maxV v)) := by
  have _ : C.Loose := inferInstance
  rintro st Q ⟨h0, hn, hn2, hQ⟩
  refine LoopOK.mk (prg hP) [] 0 .nil [0, 3, 4] [3] [] (S_mmState n v (maxV v)) (fun k => k + 1 ≤ n) (fun k => n - k) 0 hn h0 (fun k hk => ?_) (fun i => ⟨fun _ _ => rfl, trivial⟩)
  rw [nf_max_round]
  refine condP_dec (fun h => ?_) (fun h => ⟨fun _ _ => rfl, _, rowsEq1, ?_⟩)
  · have e : ((k : Int) + 1).toNat = k + 1 := by omega
    simp only [inR, e, and_true]
    exact ⟨by omega, by omega, by omega, k + 1, ⟨rfl, rowsEq1⟩, by omega, by omega⟩
  · have : k = n - 1 := by omega
    rw [this]; exact hQ

theorem min_ok (hP : C.P = Tryz.prog) : SpecOK C 170 S_min := by
  rintro args objs U Os vc h hvc
  unfold S_min at h
  split at h <;> simp only [Option.some.injEq, Prod.mk.injEq, reduceCtorEq] at h
  rename_i n t m f fr
  obtain ⟨rfl, rfl, rfl⟩ := h
  obtain ⟨rfl, rfl, hn, rfl, hn2, hf⟩ := hvc
  generalize vInt f = v at hf
  subst hf
  refine SpecOK.wpL (prg hP) [] [(5, L_mm n v (minV v)), (1002, fun _ _ => False)] 0 .nil (hP ▸ Tryz.func170) rfl rfl rfl
    [(regC Tryz.f170 2, fun _ _ => False), (loopC Tryz.f170 5, L_mm n v (minV v))] (by kernel_rfl) ⟨fun _ _ h => h.elim, min_loop hP n v, trivial⟩ ?_
  show wpFn _ _ _ _ _ _ [.row _ _ _ (fun i => [.int .i64 (v i)]) _] _
  rw [nf_min]
  exact condP_dec (fun h => absurd h (by omega)) (fun _ => ⟨by omega, by omega, ⟨rfl, rowsEq1⟩, hn, hn2, fun _ _ => rfl, _, rowsEq1, rfl, rfl⟩)

theorem max_ok (hP : C.P = Tryz.prog) : SpecOK C 171 S_max := by
  rintro args objs U Os vc h hvc
  unfold S_max at h
  split at h <;> simp only [Option.some.injEq, Prod.mk.injEq, reduceCtorEq] at h
  rename_i n t m f fr
  obtain ⟨rfl, rfl, rfl⟩ := h
  obtain ⟨rfl, rfl, hn, rfl, hn2, hf⟩ := hvc
  generalize vInt f = v at hf
  subst hf
  refine SpecOK.wpL (prg hP) [] [(5, L_mm n v (maxV v)), (1002, fun _ _ => False)] 0 .nil (hP ▸ Tryz.func171) rfl rfl rfl
    [(regC Tryz.f171 2, fun _ _ => False), (loopC Tryz.f171 5, L_mm n v (maxV v))] (by kernel_rfl) ⟨fun _ _ h => h.elim, max_loop hP n v, trivial⟩ ?_
  show wpFn _ _ _ _ _ _ [.row _ _ _ (fun i => [.int .i64 (v i)]) _] _
  rw [nf_max]
  exact condP_dec (fun h => absurd h (by omega)) (fun _ => ⟨by omega, by omega, ⟨rfl, rowsEq1⟩, hn, hn2, fun _ _ => rfl, _, rowsEq1, rfl, rfl⟩)

theorem itoa_ok (hP : C.P = Tryz.prog) : SpecOK C 172 S_itoa := by
  rintro args objs U Os vc h hvc
  unfold S_itoa at h
  split at h <;> simp only [Option.some.injEq, Prod.mk.injEq, reduceCtorEq] at h
  rename_i n
  obtain ⟨rfl, rfl, rfl⟩ := h
  obtain ⟨i, rfl⟩ : ∃ i : Nat, n = i := ⟨n.toNat, by omega⟩
  refine ACalls.below ⟨Tryz.f172, hP ▸ Tryz.func172, rfl, by decide⟩ fun w M cargs _ _ hM hl hv => ?_
  obtain ⟨a, rfl⟩ := mem1 hl
  have := (hv 0 _ _ rfl rfl).int_iff
  subst this
  rw [hP]
  refine (Tryz.strconv_Itoa_small i (by omega) w).mono ?_
  rintro e w' ⟨rfl, rfl⟩
  exact ⟨_, rfl, Below.refl _ _, .str (by simp [decF])⟩

theorem format_loop (hP : C.P = Tryz.prog) (n : Nat) (v : Nat → Int) : LoopOK C 1 49 (loopC Tryz.f160 7) (L_fmt n v) := by
  rintro st Q ⟨h0, hok, hQ⟩
  have hv := fmtOK_at hok
  have hn := fmtOK_n hok
  refine LoopOK.mk (prg hP) [(172, .det S_itoa)] 0 (.cons (itoa_ok hP) .nil) [4, 36, 37, 38] [4] [] (S_fmtState n v) (fun k => k ≤ n - 1) (fun k => n - k) 0 (Nat.zero_le _) h0 (fun k hk => ?_) (fun i => ⟨fun _ _ => rfl, trivial⟩)
  rw [nf_format_round]
  have hl1 := fmtHead_len (hv 0 (by omega))
  have hl2 := fmtRest_len (n := n) (fun i hi => hv i hi) k (by omega)
  refine condP_dec (fun h => ?_) (fun h => ⟨fun _ _ => rfl, _, rowsEq1, ?_⟩)
  · have hlt : k < n - 1 := by omega
    have e : 1 + (k : Int).toNat = k + 1 := by omega
    have hk1 := hv (k + 1) (by omega)
    have hl3 := decF_len hk1
    simp only [inR, e, and_true, List.length_append, List.length_cons, List.length_nil]
    refine ⟨by omega, by omega, by omega, by omega, by omega, by omega, k + 1, ⟨?_, rowsEq1⟩, by omega, by omega⟩
    unfold TEq
    rw [show fmtRest v (k + 1) = fmtRest v k ++ (46 :: decF (v (k + 1))) from rfl]
    simp
  · have : k = n - 1 := by omega
    rw [this]; exact hQ

theorem format_ok (hP : C.P = Tryz.prog) : SpecOK C 160 S_format := by
  rintro args objs U Os vc h hvc
  unfold S_format at h
  split at h <;> simp only [Option.some.injEq, Prod.mk.injEq, reduceCtorEq] at h
  rename_i n t m f fr
  obtain ⟨rfl, rfl, rfl⟩ := h
  obtain ⟨rfl, rfl, rfl, hn2, hf⟩ := hvc
  generalize vInt f = v at hf
  subst hf
  refine SpecOK.wpL (prg hP) [(170, .det S_min), (171, .det S_max), (172, .det S_itoa)] [(7, L_fmt n v)] 0 (.cons (min_ok hP) (.cons (max_ok hP) (.cons (itoa_ok hP) .nil))) (hP ▸ Tryz.func160) rfl rfl rfl
    [(loopC Tryz.f160 7, L_fmt n v)] (by kernel_rfl) ⟨format_loop hP n v, trivial⟩ ?_
  show wpFn _ _ _ _ _ _ [.row _ _ _ (fun i => [.int .i64 (v i)]) _] _
  rw [nf_format]
  have hvi : (vInt fun i => [AV.int .i64 (v i)]) = v := rfl
  rw [hvi]
  have bad : fmtOK n v = false → (AV.tuple [.str [], .int .i64 64] = .tuple [.str (bif fmtOK n v then fmtZ n v else []), .int .i64 (bif fmtOK n v then 0 else 64)]) := fun h => by rw [h]; rfl
  have good : fmtOK n v = true → (AV.tuple [.str (fmtZ n v), .int .i64 0] = .tuple [.str (bif fmtOK n v then fmtZ n v else []), .int .i64 (bif fmtOK n v then 0 else 64)]) := fun h => by rw [h]; rfl
  refine condP_dec (fun h1 => ⟨fun _ _ => rfl, _, rowsEq1, bad ?_, rfl⟩) (fun h1 => condP_dec (fun h2 => ⟨fun _ _ => rfl, _, rowsEq1, bad ?_, rfl⟩) (fun h2 => ⟨fun _ _ => rfl, ⟨rfl, rfl, by omega, rfl, hn2, rfl⟩, fun _ _ => rfl,
    condP_dec (fun h3 => ⟨fun _ _ => rfl, _, rowsEq1, bad ?_, rfl⟩) (fun h3 => ⟨fun _ _ => rfl, ⟨rfl, rfl, by omega, rfl, hn2, rfl⟩, fun _ _ => rfl, condP_dec (fun h4 => ⟨fun _ _ => rfl, _, rowsEq1, bad ?_, rfl⟩) (fun h4 => ?_)⟩)⟩))
  · unfold fmtOK; rw [decide_eq_false (p := 1 ≤ n) (by omega)]; rfl
  · unfold fmtOK; rw [decide_eq_false (p := n ≤ 5) (by omega)]; simp
  · unfold fmtOK; rw [decide_eq_false (p := 1 ≤ minV v (n - 1)) (by omega)]; simp
  · unfold fmtOK; rw [decide_eq_false (p := maxV v (n - 1) ≤ 99) (by omega)]; simp
  · have hok : fmtOK n v = true := by
      unfold fmtOK
      rw [decide_eq_true (p := 1 ≤ n) (by omega), decide_eq_true (p := n ≤ 5) (by omega), decide_eq_true (p := 1 ≤ minV v (n - 1)) (by omega), decide_eq_true (p := maxV v (n - 1) ≤ 99) (by omega)]; rfl
    have hv := fmtOK_at hok 0 (by omega)
    have hl3 := decF_len hv
    refine ⟨by omega, ⟨by omega, rfl⟩, by omega, by omega, ⟨by omega, rfl⟩, condP_dec (fun h5 => ⟨by simp only [List.length_cons, List.length_nil]; omega, by omega, ⟨?_, rowsEq1⟩, hok, fun _ _ => rfl, _, rowsEq1, good hok, rfl⟩) (fun h5 => ⟨by omega, ⟨?_, rowsEq1⟩, hok, fun _ _ => rfl, _, rowsEq1, good hok, rfl⟩)⟩
    · unfold TEq fmtHead
      rw [decide_eq_true h5]
      simp [fmtRest]
    · unfold TEq fmtHead
      rw [decide_eq_false h5]
      simp [fmtRest]

end Go.Eng
/- Codes of classifications: the words of a code, their numbers, the parts. -/
namespace Go.Eng
open Go.Proofs Go.RowKit
set_option maxRecDepth 20000

theorem nf_parse (s : List UInt8) (R : AV → List (Nat × AObj) → Prop) : wpFn te [(158, .det S_split), (160, .det S_format)] [(3, L_parse s)] 0 Tryz.f143 [.str s] [] R = ((List.length s < 4294967281 ∧ [(46 : UInt8)] = [(46 : UInt8)]) ∧ (TEq [(0, .str s), (4, .own 0 0), (12, .view 1 (List.length (words s)) fun (i : Nat) => [.str (List.getD (words s) i [])]), (13, .int .i64 (↑(List.length (words s)) : Int)), (14, .int .i64 0)] [(0, .str s), (4, .own 0 0), (12, .view 1 (List.length (words s)) fun (i : Nat) => [.str (List.getD (words s) i [])]), (13, .int .i64 (↑(List.length (words s)) : Int)), (14, .int .i64 (↑0 : Int))] ∧ RowsEq [(0, .row 3 1 0 (fun (x : Nat) => []) false)] [(0, .row 3 1 0 (fun (i : Nat) => [.int .i64 (wordV s i)]) false)]) ∧ List.length s < 4294967281 ∧ (∀ (i : Nat), i < List.length (words s) → true = true) ∧ (3 = 3 ∧ false = false ∧ List.length (words s) = List.length (words s) ∧ List.length (words s) ≤ 4611686018427387904 ∧ (fun (i : Nat) => [.int .i64 (wordV s i)]) = intRow (vInt fun (i : Nat) => [.int .i64 (wordV s i)])) ∧ (∀ (i : Nat), i < List.length (words s) → true = true) ∧ condP (!decide ((bif fmtOK (List.length (words s)) (vInt fun (i : Nat) => [.int .i64 (wordV s i)]) then (0 : Int) else (64 : Int)) = (0 : Int))) (R (.tuple [.nil, .int .i64 60]) []) (condP (!decide ((bif fmtOK (List.length (words s)) (vInt fun (i : Nat) => [.int .i64 (wordV s i)]) then fmtZ (List.length (words s)) (vInt fun (i : Nat) => [.int .i64 (wordV s i)]) else []) = s)) (R (.tuple [.nil, .int .i64 60]) []) ((∀ (i : Nat), i < List.length (words s) → true = true) ∧ ∃ (O' : List (Nat × AObj)), RowsEq [(0, .row 3 1 (List.length (words s)) (fun (i : Nat) => [.int .i64 (wordV s i)]) false)] O' ∧ R (.tuple [.own 0 (List.length (words s)), .int .i64 0]) O'))) := by kernel_rfl
theorem nf_parse_round (s : List UInt8) (k : Nat) (P : Nat → Prop) (R : Exit → St → Prop) : roundP ⟨te, [(159, .det S_atoi)], [], 0, 41, 0⟩ (loopB Tryz.f143 3) [0, 4, 12, 13, 14] [0, 4] [] (S_paState s) P R (S_paState s k) = (condP (decide ((↑k : Int) < (↑(List.length (words s)) : Int))) (((0 : Int) ≤ (↑k : Int) ∧ (↑k : Int) < (↑(List.length (words s)) : Int) ∧ 1 = 1) ∧ List.length (List.getD (words s) (Int.toNat (↑k : Int)) []) ≤ 281474976710656 ∧ (1 ≤ 16777216 ∧ 1 = 1 ∧ 1 ≤ 9223372036854775807) ∧ ((1 ≤ 1 ∧ 1 = 1) ∧ k ≤ k ∧ 1 = 1 ∧ 3 = 3 ∧ 1 = 1 ∧ k + 1 ≤ 9223372036854775807 ∧ (k + 1) * TI.bytes (TI.mk (TypeDesc.int IntKind.i64) 1 8 (Value.int IntKind.i64 0) false) ≤ 140737488355328) ∧ inR .i64 ((↑k : Int) + (1 : Int)) ∧ ∃ (i' : Nat), (TEq [(0, .str s), (4, .own 0 (k + 1)), (12, .view 1 (List.length (words s)) fun (i : Nat) => [.str (List.getD (words s) i [])]), (13, .int .i64 (↑(List.length (words s)) : Int)), (14, .int .i64 ((↑k : Int) + (1 : Int)))] [(0, .str s), (4, .own 0 i'), (12, .view 1 (List.length (words s)) fun (i : Nat) => [.str (List.getD (words s) i [])]), (13, .int .i64 (↑(List.length (words s)) : Int)), (14, .int .i64 (↑i' : Int))] ∧ RowsEq [(0, .row 3 1 (k + 1) (apF k (fun (i : Nat) => [.int .i64 (wordV s i)]) (chunkA (TI.sz (TI.mk (TypeDesc.int IntKind.i64) 1 8 (Value.int IntKind.i64 0) false)) (.int .i64 (atoiZ (List.getD (words s) (Int.toNat (↑k : Int)) [])) :: List.append [] (List.flatten (List.replicate (nat_lit 0) [.int .i64 0]))))) false)] [(0, .row 3 1 i' (fun (i : Nat) => [.int .i64 (wordV s i)]) false)]) ∧ P i') ((∀ (i : Nat), i < k → true = true) ∧ ∃ (O' : List (Nat × AObj)), RowsEq [(0, .row 3 1 k (fun (i : Nat) => [.int .i64 (wordV s i)]) false)] O' ∧ R (.exit 0) (St.mk [(0, .str s), (4, .own 0 k)] O' 1 []))) := by kernel_rfl

variable {C : Ctx} [C.Loose]

theorem split_ok (hP : C.P = Tryz.prog) (hL : ∀ w, C.laid w → LaidW w) : SpecOK C 158 S_split := by
  rintro args objs U Os vc h hvc
  unfold S_split at h
  split at h <;> simp only [Option.some.injEq, Prod.mk.injEq, reduceCtorEq] at h
  rename_i s sep
  obtain ⟨rfl, rfl, rfl⟩ := h
  obtain ⟨hs, rfl⟩ := hvc
  refine ACalls.below ⟨Tryz.f158, hP ▸ Tryz.func158, rfl, by decide⟩ fun w M cargs hlaid _ hM hl hv => ?_
  obtain ⟨m, hm⟩ := (hL w hlaid).maxLen
  obtain ⟨a, b, rfl⟩ := mem2 hl
  have e1 := (hv 0 _ _ rfl rfl).str_iff
  have e2 := (hv 1 _ _ rfl rfl).str_iff
  subst e1; subst e2
  rw [hP]
  refine (Tryz.strings_Split ⟨s.toArray⟩ ⟨#[46]⟩ m w (by simpa [ByteArray.size] using hs) hm (by decide)).mono ?_
  rintro e w' ⟨rfl, rfl⟩
  have hd := Lib.splitB_data ⟨#[46]⟩ 0 (Lib.countB ⟨s.toArray⟩ ⟨#[46]⟩) ⟨s.toArray⟩
  have hw : (Lib.splitB ⟨#[46]⟩ 0 (Lib.countB ⟨s.toArray⟩ ⟨#[46]⟩) ⟨s.toArray⟩).map (·.data.toList) = words s := by
    rw [hd]
    simp [words, Lib.split]
  have hlen : (Lib.splitB ⟨#[46]⟩ 0 (Lib.countB ⟨s.toArray⟩ ⟨#[46]⟩) ⟨s.toArray⟩).length = (words s).length := by rw [← hw]; simp
  have hcnt : Lib.countB ⟨s.toArray⟩ ⟨#[46]⟩ + 1 = (words s).length := by
    rw [words_len]
  refine ⟨_, rfl, (Below.refl _ _).alloc (Nat.le_refl _) _, ?_⟩
  rw [hcnt]
  have hle := Lib.count_le s [46]
  refine V.newview hM (by simp [hlen]) (by rw [words_len]; unfold maxLen; omega) (fun i v hv => ?_) (fun i v hv => ?_)
  · rw [List.getElem?_toArray, List.getElem?_map] at hv
    obtain ⟨x, _, rfl⟩ := Option.map_eq_some_iff.1 hv
    exact rfl
  · simp at hv
    obtain ⟨x, hx, rfl⟩ := hv
    refine ⟨_, rfl, .str ?_⟩
    have : (words s)[i]? = some x.data.toList := by rw [← hw]; simp [hx]
    simp [List.getD, this]

theorem atoi_ok (hP : C.P = Tryz.prog) (hL : ∀ w, C.laid w → LaidW w) : SpecOK C 159 S_atoi := by
  rintro args objs U Os vc h hvc
  unfold S_atoi at h
  split at h <;> simp only [Option.some.injEq, Prod.mk.injEq, reduceCtorEq] at h
  rename_i s
  obtain ⟨rfl, rfl, rfl⟩ := h
  refine ACalls.below ⟨Tryz.f159, hP ▸ Tryz.func159, rfl, by decide⟩ fun w M cargs hlaid _ hM hl hv => ?_
  obtain ⟨a, rfl⟩ := mem1 hl
  have e1 := (hv 0 _ _ rfl rfl).str_iff
  subst e1
  rw [hP]
  have hsz : (⟨s.toArray⟩ : ByteArray).size = s.length := by simp [ByteArray.size]
  have hdt : (⟨s.toArray⟩ : ByteArray).data.toList = s := by simp
  have tup : ∀ (w' : World) (n : Int) (e : Value), V w' M nob (.tuple #[.int .i64 n, e]) (.tuple [.int .i64 n, .any]) := fun w' n e => .tuple rfl fun j v u hv hu => by
    match j with
    | 0 => simp at hv hu; subst hv; subst hu; exact .int
    | 1 => simp at hv hu; subst hv; subst hu; exact .any
    | j + 2 => simp at hv
  unfold atoiZ
  cases hh : Lib.atoiAll s with
  | ok v =>
    refine (Tryz.strconv_Atoi_ok ⟨s.toArray⟩ (by omega) v (by rw [hdt]; exact hh) w).mono ?_
    rintro e w' ⟨rfl, hw⟩
    refine ⟨_, rfl, ?_, tup _ _ _⟩
    rcases hw with rfl | ⟨t, rfl⟩
    · exact Below.refl _ _
    · exact Lib.bytesWorld_below _ _ _
  | range =>
    obtain ⟨t, p, he⟩ := (hL w hlaid).errR
    refine (Any.strconv_Atoi_range Tryz.laysC172 ⟨s.toArray⟩ (by omega) (by rw [hdt]; exact hh) _ w he (.inr ⟨t, p, rfl⟩)).mono ?_
    rintro e w' ⟨N, rfl, _, _, hb⟩
    rw [hdt]
    exact ⟨_, rfl, hb, tup _ _ _⟩
  | _ =>
    obtain ⟨t, p, he⟩ := (hL w hlaid).errS
    refine (Any.strconv_Atoi_syntax Tryz.laysC172 ⟨s.toArray⟩ (by omega) (by rw [hdt]; exact hh) _ w he (.inr ⟨t, p, rfl⟩)).mono ?_
    rintro e w' ⟨N, rfl, _, _, hb⟩
    exact ⟨_, rfl, hb, tup _ _ _⟩

theorem parse_loop (hP : C.P = Tryz.prog) (hL : ∀ w, C.laid w → LaidW w) (s : List UInt8) : LoopOK C 0 41 (loopC Tryz.f143 3) (L_parse s) := by
  rintro st Q ⟨h0, hs, hQ⟩
  refine AWP.ownNil 4 3 1 ?_
  have hwl : (words s).length ≤ s.length + 2 := by
    have := Lib.count_le s [46]
    rw [words_len]; omega
  refine LoopOK.mk (prg hP) [(159, .det S_atoi)] 0 (.cons (atoi_ok hP hL) .nil) [0, 4, 12, 13, 14] [0, 4] [] (S_paState s) (fun k => k ≤ (words s).length) (fun k => (words s).length - k) 0 (Nat.zero_le _) h0 (fun k hk => ?_) (fun i => ⟨fun _ _ => rfl, trivial⟩)
  rw [nf_parse_round]
  refine condP_dec (fun h => ?_) (fun h => ⟨fun _ _ => rfl, _, rowsEq1, ?_⟩)
  · have hlt : k < (words s).length := by omega
    have hlw : ((words s).getD k []).length ≤ s.length := by
      have := words_le s ((words s).getD k []) (by simp [List.getD, hlt])
      exact this
    have hrow : ∀ i, i < k + 1 → apF k (fun i => [AV.int .i64 (wordV s i)]) (chunkA 1 [.int .i64 (atoiZ ((words s).getD k []))]) i = [.int .i64 (wordV s i)] := by
      intro i hi
      unfold apF
      split
      · rfl
      · have : i = k := by omega
        subst this
        rw [Nat.sub_self]; rfl
    simp only [inR, Int.toNat_natCast]
    and_intros
    any_goals omega
    any_goals (simp; done)
    exact ⟨k + 1, ⟨rfl, ⟨rfl, rfl, rfl, rfl, rfl, hrow⟩, trivial⟩, by omega, by omega⟩
  · have : k = (words s).length := by omega
    rw [this] at *
    exact hQ

theorem parse_ok (hP : C.P = Tryz.prog) (hL : ∀ w, C.laid w → LaidW w) : RSpecOK C 143 R_parse := by
  rintro args objs R h
  unfold R_parse at h
  split at h
  · rename_i s
    obtain ⟨hs, hR⟩ := h
    have hR := condP_elim hR
    refine RSpecOK.wpL (prg hP) [(158, .det S_split), (160, .det S_format)] [(3, L_parse s)] 0 (.cons (split_ok hP hL) (.cons (format_ok hP) .nil)) (hP ▸ Tryz.func143) rfl rfl rfl
      [(loopC Tryz.f143 3, L_parse s)] (by kernel_rfl) ⟨parse_loop hP hL s, trivial⟩ ?_
    rw [nf_parse]
    have hvi : (vInt fun i => [AV.int .i64 (wordV s i)]) = wordV s := rfl
    rw [hvi]
    have hwl : (words s).length ≤ s.length + 2 := by
      have := Lib.count_le s [46]
      rw [words_len]; omega
    refine ⟨⟨hs, rfl⟩, ⟨rfl, ⟨rfl, rfl, rfl, rfl, rfl, fun i hi => by omega⟩, trivial⟩, hs, fun _ _ => rfl, ⟨rfl, rfl, rfl, by omega, rfl⟩, fun _ _ => rfl, ?_⟩
    cases hok : fmtOK (words s).length (wordV s) with
    | false => exact hR.2 (by unfold parseOK; rw [hok]; rfl)
    | true =>
      have e0 : (!decide ((bif true then (0 : Int) else 64) = 0)) = false := rfl
      rw [e0]
      show condP (!decide (fmtZ (words s).length (wordV s) = s)) _ _
      refine condP_ndec (fun h1 => hR.2 ?_) (fun h1 => ⟨fun _ _ => rfl, _, rowsEq1, hR.1 ?_⟩)
      · unfold parseOK; rw [hok, decide_eq_false h1]; rfl
      · unfold parseOK; rw [hok]; exact decide_eq_true h1
  · exact h.elim

end Go.Eng
/- Levels of codes. -/
namespace Go.Eng
open Go.Proofs Go.RowKit
variable {C : Ctx} [C.Loose]
set_option maxRecDepth 20000
theorem nf_level (s : List UInt8) (R : AV → List (Nat × AObj) → Prop) : wpFn te [(143, .rel R_parse)] [] 0 Tryz.f124 [.str s] [] R = (List.length s < 4294967281 ∧ condP (parseOK s) ((∀ (i : Nat), i < List.length (words s) → true = true) ∧ R (.int .i64 (↑(List.length (words s)) : Int)) []) (condP (!decide (s = [])) (R (.int .i64 (-1 : Int)) []) (R (.int .i64 0) []))) := by kernel_rfl

theorem level_ok (hP : C.P = Tryz.prog) (hL : ∀ w, C.laid w → LaidW w) : SpecOK C 124 S_level := by
  rintro args objs U Os vc h hvc
  unfold S_level at h
  split at h <;> simp only [Option.some.injEq, Prod.mk.injEq, reduceCtorEq] at h
  rename_i s
  obtain ⟨rfl, rfl, rfl⟩ := h
  refine SpecOK.wp0 (prg hP) [(143, .rel R_parse)] 0 (.cons (parse_ok hP hL) .nil) (hP ▸ Tryz.func124) rfl rfl rfl ?_
  rw [nf_level]
  refine ⟨hvc, condP_intro (fun h => ⟨fun _ _ => rfl, ?_, rfl⟩) (fun h => condP_ndec (fun h' => ⟨?_, rfl⟩) (fun h' => ⟨?_, rfl⟩))⟩
  · unfold levelV; rw [h]
  · unfold levelV; rw [h, decide_eq_false h']
  · unfold levelV; rw [h, decide_eq_true h']

end Go.Eng
/- Contents of packages. -/
namespace Go.Eng
open Go.Proofs Go.RowKit
set_option maxRecDepth 20000
theorem nf_qty (d c a : Int) (R : AV → List (Nat × AObj) → Prop) : wpFn te [] [] 0 Tryz.f126 [.agg [.int .i64 d, .int .i64 c, .int .i64 a]] [] R = (condP (decide (d < (1 : Int))) (R (.int .i64 80) []) (condP (decide ((4 : Int) < d)) (R (.int .i64 80) []) (condP (decide (c < (1 : Int))) (R (.int .i64 81) []) (condP (decide ((100 : Int) < c)) (R (.int .i64 81) []) (condP (decide (a < (1 : Int))) (R (.int .i64 82) []) ((c ≠ (0 : Int) ∧ inR .i64 (Int.tdiv (1099511627776 : Int) c)) ∧ condP (decide (Int.tdiv (1099511627776 : Int) c < a)) (R (.int .i64 82) []) (R (.int .i64 0) []))))))) := by kernel_rfl
variable {C : Ctx} [C.Loose]

theorem qty_ok (hP : C.P = Tryz.prog) : SpecOK C 126 S_qty := by
  have _ : C.Loose := inferInstance
  rintro args objs U Os vc h hvc
  unfold S_qty at h
  split at h <;> simp only [Option.some.injEq, Prod.mk.injEq, reduceCtorEq] at h
  rename_i d c a
  obtain ⟨rfl, rfl, rfl⟩ := h
  refine SpecOK.wp0 (prg hP) [] 0 .nil (hP ▸ Tryz.func126) rfl rfl rfl ?_
  rw [nf_qty]
  refine condP_intro (fun h1 => ?_) (fun h1 => condP_intro (fun h2 => ?_) (fun h2 => condP_intro (fun h3 => ?_) (fun h3 => condP_intro (fun h4 => ?_) (fun h4 => condP_intro (fun h5 => ?_) (fun h5 => ⟨qty_bound (of_decide_eq_false h3) (of_decide_eq_false h4), condP_intro (fun h6 => ?_) (fun h6 => ?_)⟩)))))
  all_goals simp only [qtyF, *, cond_true, cond_false, and_self]

end Go.Eng
