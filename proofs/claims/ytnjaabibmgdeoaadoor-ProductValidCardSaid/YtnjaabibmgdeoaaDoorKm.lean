/- Lemmas that the tied card of ProductValid is proved by. -/
import Derived.Test.YtnjaabibmgdeoaaDoorKk
import Derived.Test.YtnjaabibmgdeoaaDoorKl
/- What the library's functions compute: plain functions. -/
namespace Go.Eng

def dropR (p : UInt8 → Bool) (s : List UInt8) : List UInt8 := (s.reverse.dropWhile p).reverse
def trimF (c s : List UInt8) : List UInt8 := (dropR (c.contains ·) s).dropWhile (c.contains ·)
def S_trim : Spec
  | [.str s, .str c], [] => some (.str (trimF c s), [], s.length ≤ maxLen ∧ 2 ≤ c.length ∧ c.length < 4294967281 ∧ ∀ b ∈ c, b.toNat < 128)
  | _, _ => none

theorem dropR_snoc (p : UInt8 → Bool) (r : List UInt8) (x : UInt8) : dropR p (r ++ [x]) = if p x then dropR p r else r ++ [x] := by
  unfold dropR
  simp only [List.reverse_append, List.reverse_cons, List.reverse_nil, List.nil_append, List.cons_append, List.dropWhile_cons]
  split <;> simp
theorem snoc_cases {α : Type} (l : List α) : l = [] ∨ ∃ r x, l = r ++ [x] := by
  rcases List.eq_nil_or_concat l with h | ⟨r, x, h⟩
  · exact .inl h
  · exact .inr ⟨r, x, by rw [h]; simp⟩

/-- A set of bytes as a variable of 256 truth values. -/
def inSet (cells : List AV) (x : UInt8) : Bool := boolOf (cells.getD x.toNat .any)
def SetOK (cells : List AV) : Prop := cells.length = 256 ∧ ∀ u ∈ cells, ∃ b, u = .bool b
theorem SetOK.at_ {cells : List AV} (h : SetOK cells) (x : UInt8) : cells[x.toNat]? = some (.bool (inSet cells x)) := by
  have hlt : x.toNat < cells.length := by rw [h.1]; exact x.toNat_lt
  obtain ⟨b, hb⟩ := h.2 cells[x.toNat] (List.getElem_mem hlt)
  have : inSet cells x = b := by simp [inSet, hlt, hb, boolOf]
  rw [this, List.getElem?_eq_getElem hlt, hb]
theorem SetOK.rn {cells : List AV} (h : SetOK cells) (ρ : Nat → Option Nat) : AV.rnL ρ cells = cells := by
  have key : ∀ l : List AV, (∀ u ∈ l, ∃ b, u = .bool b) → AV.rnL ρ l = l := by
    intro l
    induction l with
    | nil => intro _; rfl
    | cons u l ih =>
      intro hl
      obtain ⟨b, rfl⟩ := hl u (by simp)
      simp only [AV.rnL, AV.rn, ih fun u hu => hl u (List.mem_cons_of_mem _ hu)]
  exact key cells h.2

@[irreducible] def setAV (cs : List UInt8) : List AV := (List.range 256).map fun i => .bool (cs.contains (UInt8.ofNat i))
theorem setAV_ok (cs : List UInt8) : SetOK (setAV cs) := ⟨by unfold setAV; simp, fun u hu => by
  unfold setAV at hu
  obtain ⟨i, _, rfl⟩ := List.mem_map.1 hu
  exact ⟨_, rfl⟩⟩
theorem inSet_setAV (cs : List UInt8) (x : UInt8) : inSet (setAV cs) x = cs.contains x := by
  have : x.toNat < 256 := x.toNat_lt
  unfold inSet setAV; simp [List.getD, this, boolOf]

def S_setContains : Spec
  | [.ptr 0 0, .int .u8 x], [.cells cells t] => some (.bool (inSet cells (UInt8.ofNat x.toNat)), [(0, .cells cells t)], SetOK cells ∧ 0 ≤ x ∧ x < 256)
  | _, _ => none
def S_trimLeftA : Spec
  | [.str s, .ptr 0 0], [.cells cells 80] => some (.str (s.dropWhile (inSet cells)), [(0, .cells cells 80)], SetOK cells)
  | _, _ => none
def S_trimRightA : Spec
  | [.str s, .ptr 0 0], [.cells cells 80] => some (.str (dropR (inSet cells) s), [(0, .cells cells 80)], SetOK cells ∧ s.length ≤ maxLen)
  | _, _ => none
def S_tlState (cells : List AV) (t : Nat) (s : List UInt8) : St := ⟨[(0, .str s), (1, .ptr 0 0)], [(0, .cells cells t)], 1, []⟩
def L_trimLeftA (s : List UInt8) (cells : List AV) (t : Nat) : LSpec := fun st Q => canonIs te 1 [0, 1] st (S_tlState cells t s) ∧ SetOK cells ∧ Q (.exit 0) ⟨[(0, .str (s.dropWhile (inSet cells)))], [(0, .cells cells t)], 1, []⟩
def L_trimRightA (s : List UInt8) (cells : List AV) (t : Nat) : LSpec := fun st Q => canonIs te 1 [0, 1] st (S_tlState cells t s) ∧ SetOK cells ∧ s.length ≤ maxLen ∧ Q (.exit 0) ⟨[(0, .str (dropR (inSet cells) s))], [(0, .cells cells t)], 1, []⟩
def S_makeSet : Spec
  | [.str l], [] => some (.tuple [.agg (setAV l), .bool true], [], l.length < 4294967281 ∧ ∀ b ∈ l, b.toNat < 128)
  | _, _ => none
/-- The set is made and laid into a variable. -/
def L_trimSet (s cs : List UInt8) : LSpec := fun st Q => canonIs te 0 [0, 1] st ⟨[(0, .str s), (1, .str cs)], [], 0, []⟩ ∧ cs.length < 4294967281 ∧ (∀ b ∈ cs, b.toNat < 128) ∧
  Q .normal ⟨[(0, .str s), (5, .ptr 0 0), (6, .bool true)], [(0, .cells (setAV cs) 80)], 1, []⟩


theorem toNat_len_pos (x : UInt8) (s : List UInt8) : (0 : Int) < ((x :: s).length : Int) := by simp

end Go.Eng

/- Functions of the library: they compute what the plain functions say. -/
namespace Go.Eng
open Go.Proofs Go.RowKit
set_option maxRecDepth 20000

theorem nf_trimLeftA (s : List UInt8) (cells : List AV) (R : AV → List (Nat × AObj) → Prop) : wpFn te [] [(1, L_trimLeftA s cells 80)] 0 Tryd.f47 [.str s, .ptr 0 0] [.cells cells 80] R = (some (St.mk [(0, .str s), (1, .ptr 0 0)] [(0, .cells (AV.rnL (ren 1 []) cells) 80)] 1 []) = some (St.mk [(0, .str s), (1, .ptr 0 0)] [(0, .cells cells 80)] 1 []) ∧ SetOK cells ∧ R (.str (List.dropWhile (inSet cells) s)) [(0, .cells (AV.rnL (ren 1 []) cells) 80)]) := by kernel_rfl
theorem nf_trimLeftA_nil (cells : List AV) (P : List UInt8 → Prop) (R : Exit → St → Prop) : roundP ⟨te, [(59, .det S_setContains)], [], 1, 16, 0⟩ (loopB Tryd.f47 1) [0, 1] [0] [0] (S_tlState cells 80) P R (S_tlState cells 80 []) = (R (.exit 0) (St.mk [(0, .str [])] [(0, .cells (AV.rnL (ren 1 []) cells) 80)] 1 [])) := by kernel_rfl
theorem nf_trimLeftA_cons (x : UInt8) (s : List UInt8) (cells : List AV) (P : List UInt8 → Prop) (R : Exit → St → Prop) : roundP ⟨te, [(59, .det S_setContains)], [], 1, 16, 0⟩ (loopB Tryd.f47 1) [0, 1] [0] [0] (S_tlState cells 80) P R (S_tlState cells 80 (x :: s)) = (condP (decide ((0 : Int) < (↑(List.length (x :: s)) : Int))) (((0 : Int) ≤ (0 : Int) ∧ (0 : Int) < (↑(List.length (x :: s)) : Int)) ∧ (SetOK (AV.rnL (idxN [0]) cells) ∧ (0 : Int) ≤ (↑(UInt8.toNat (List.getD (x :: s) (Int.toNat (0 : Int)) (0 : UInt8))) : Int) ∧ (↑(UInt8.toNat (List.getD (x :: s) (Int.toNat (0 : Int)) (0 : UInt8))) : Int) < (256 : Int)) ∧ condP (!inSet (AV.rnL (idxN [0]) cells) (UInt8.ofNat (Int.toNat (↑(UInt8.toNat (List.getD (x :: s) (Int.toNat (0 : Int)) (0 : UInt8))) : Int)))) (R (.exit 0) (St.mk [(0, .str (x :: s))] [(0, .cells (AV.rnL (ren 1 []) (AV.rnL (sig [0] 1) (AV.rnL (idxN [0]) cells))) 80)] 1 [])) (((0 : Int) ≤ (1 : Int) ∧ (1 : Int) ≤ (↑(List.length (x :: s)) : Int)) ∧ ∃ (i' : List UInt8), some (St.mk [(0, .str (List.drop (Int.toNat (1 : Int)) (x :: s))), (1, .ptr 0 0)] [(0, .cells (AV.rnL (ren 1 []) (AV.rnL (sig [0] 1) (AV.rnL (idxN [0]) cells))) 80)] 1 []) = some (St.mk [(0, .str i'), (1, .ptr 0 0)] [(0, .cells cells 80)] 1 []) ∧ P i')) (R (.exit 0) (St.mk [(0, .str (x :: s))] [(0, .cells (AV.rnL (ren 1 []) cells) 80)] 1 []))) := by kernel_rfl
theorem nf_trimRightA (s : List UInt8) (cells : List AV) (R : AV → List (Nat × AObj) → Prop) : wpFn te [] [(1, L_trimRightA s cells 80)] 0 Tryd.f48 [.str s, .ptr 0 0] [.cells cells 80] R = (some (St.mk [(0, .str s), (1, .ptr 0 0)] [(0, .cells (AV.rnL (ren 1 []) cells) 80)] 1 []) = some (St.mk [(0, .str s), (1, .ptr 0 0)] [(0, .cells cells 80)] 1 []) ∧ SetOK cells ∧ List.length s ≤ 9223372036854775807 ∧ R (.str (dropR (inSet cells) s)) [(0, .cells (AV.rnL (ren 1 []) cells) 80)]) := by kernel_rfl
theorem nf_trimRightA_round (s : List UInt8) (cells : List AV) (P : List UInt8 → Prop) (R : Exit → St → Prop) : roundP ⟨te, [(59, .det S_setContains)], [], 1, 22, 0⟩ (loopB Tryd.f48 1) [0, 1] [0] [0] (S_tlState cells 80) P R (S_tlState cells 80 s) = (condP (decide ((0 : Int) < (↑(List.length s) : Int))) (inR .i64 ((↑(List.length s) : Int) - (1 : Int)) ∧ ((0 : Int) ≤ (↑(List.length s) : Int) - (1 : Int) ∧ (↑(List.length s) : Int) - (1 : Int) < (↑(List.length s) : Int)) ∧ (SetOK (AV.rnL (idxN [0]) cells) ∧ (0 : Int) ≤ (↑(UInt8.toNat (List.getD s (Int.toNat ((↑(List.length s) : Int) - (1 : Int))) (0 : UInt8))) : Int) ∧ (↑(UInt8.toNat (List.getD s (Int.toNat ((↑(List.length s) : Int) - (1 : Int))) (0 : UInt8))) : Int) < (256 : Int)) ∧ condP (!inSet (AV.rnL (idxN [0]) cells) (UInt8.ofNat (Int.toNat (↑(UInt8.toNat (List.getD s (Int.toNat ((↑(List.length s) : Int) - (1 : Int))) (0 : UInt8))) : Int)))) (R (.exit 0) (St.mk [(0, .str s)] [(0, .cells (AV.rnL (ren 1 []) (AV.rnL (sig [0] 1) (AV.rnL (idxN [0]) cells))) 80)] 1 [])) (inR .i64 ((↑(List.length s) : Int) - (1 : Int)) ∧ ((0 : Int) ≤ (↑(List.length s) : Int) - (1 : Int) ∧ (↑(List.length s) : Int) - (1 : Int) ≤ (↑(List.length s) : Int)) ∧ ∃ (i' : List UInt8), some (St.mk [(0, .str (List.take (Int.toNat ((↑(List.length s) : Int) - (1 : Int))) s)), (1, .ptr 0 0)] [(0, .cells (AV.rnL (ren 1 []) (AV.rnL (sig [0] 1) (AV.rnL (idxN [0]) cells))) 80)] 1 []) = some (St.mk [(0, .str i'), (1, .ptr 0 0)] [(0, .cells cells 80)] 1 []) ∧ P i')) (R (.exit 0) (St.mk [(0, .str s)] [(0, .cells (AV.rnL (ren 1 []) cells) 80)] 1 []))) := by kernel_rfl
theorem nf_trim (s cs : List UInt8) (R : AV → List (Nat × AObj) → Prop) : wpFn te [(47, .det S_trimLeftA), (48, .det S_trimRightA)] [(1005, L_trimSet s cs)] 0 Tryd.f36 [.str s, .str cs] [] R = (condP (decide (s = [])) (R (.str s) []) (condP (decide (cs = [])) (R (.str s) []) (condP (decide ((↑(List.length cs) : Int) = (1 : Int))) (((0 : Int) ≤ (0 : Int) ∧ (0 : Int) < (↑(List.length cs) : Int)) ∧ condP (decide ((↑(UInt8.toNat (List.getD cs (Int.toNat (0 : Int)) (0 : UInt8))) : Int) < (128 : Int))) (((0 : Int) ≤ (0 : Int) ∧ (0 : Int) < (↑(List.length cs) : Int)) ∧ False) (some (St.mk [(0, .str s), (1, .str cs)] [] 0 []) = some (St.mk [(0, .str s), (1, .str cs)] [] 0 []) ∧ List.length cs < 4294967281 ∧ (∀ (b : UInt8), b ∈ cs → UInt8.toNat b < 128) ∧ (SetOK (AV.rnL (idxN [0]) (setAV cs)) ∧ List.length s ≤ 9223372036854775807) ∧ SetOK (AV.rnL (idxN [0]) (AV.rnL (sig [0] 1) (AV.rnL (idxN [0]) (setAV cs)))) ∧ R (.str (List.dropWhile (inSet (AV.rnL (idxN [0]) (AV.rnL (sig [0] 1) (AV.rnL (idxN [0]) (setAV cs))))) (dropR (inSet (AV.rnL (idxN [0]) (setAV cs))) s))) [])) (some (St.mk [(0, .str s), (1, .str cs)] [] 0 []) = some (St.mk [(0, .str s), (1, .str cs)] [] 0 []) ∧ List.length cs < 4294967281 ∧ (∀ (b : UInt8), b ∈ cs → UInt8.toNat b < 128) ∧ (SetOK (AV.rnL (idxN [0]) (setAV cs)) ∧ List.length s ≤ 9223372036854775807) ∧ SetOK (AV.rnL (idxN [0]) (AV.rnL (sig [0] 1) (AV.rnL (idxN [0]) (setAV cs)))) ∧ R (.str (List.dropWhile (inSet (AV.rnL (idxN [0]) (AV.rnL (sig [0] 1) (AV.rnL (idxN [0]) (setAV cs))))) (dropR (inSet (AV.rnL (idxN [0]) (setAV cs))) s))) [])))) := by kernel_rfl


variable {C : Ctx}

theorem mem2 {α : Type} {l : List α} (h : l.length = 2) : ∃ a b, l = [a, b] := by
  match l, h with
  | [a, b], _ => exact ⟨a, b, rfl⟩
theorem mem1 {α : Type} {l : List α} (h : l.length = 1) : ∃ a, l = [a] := by
  match l, h with
  | [a], _ => exact ⟨a, rfl⟩

theorem setContains_ok (hP : C.P = Tryd.prog) : SpecOK C 59 S_setContains := by
  rintro args objs U Os vc h hvc
  unfold S_setContains at h
  split at h <;> simp only [Option.some.injEq, Prod.mk.injEq, reduceCtorEq] at h
  rename_i x cells t
  obtain ⟨rfl, rfl, rfl⟩ := h
  obtain ⟨hc, h0, h1⟩ := hvc
  obtain ⟨n, rfl⟩ : ∃ n : UInt8, x = n.toNat := ⟨UInt8.ofNat x.toNat, by simp; omega⟩
  refine ACalls.quiet ⟨Tryd.f59, hP ▸ Tryd.func59, rfl, by decide⟩ fun E bs w cargs hW hl hv => ?_
  obtain ⟨a, b, rfl⟩ := mem2 hl
  have e2 := (hv 1 _ _ rfl rfl).int_iff
  subst e2
  obtain ⟨b, y, rfl, hcc, hy⟩ := hW.cell (r := 0) rfl (hv 0 _ _ rfl rfl) (hc.at_ n)
  cases hy
  rw [hP]
  refine (Tryd.asciiSet_contains b n _ w hcc).mono ?_
  rintro e w' ⟨rfl, rfl⟩
  refine ⟨_, rfl, rfl, ?_⟩
  have : UInt8.ofNat (n.toNat : Int).toNat = n := by simp
  rw [this]
  exact .bool

theorem trimLeftA_loop (hP : C.P = Tryd.prog) (s : List UInt8) (cells : List AV) : LoopOK C 1 16 (loopC Tryd.f47 1) (L_trimLeftA s cells 80) := by
  rintro st Q ⟨h0, hc, hQ⟩
  refine LoopOK.mk (prg hP) [(59, .det S_setContains)] 0 (.cons (setContains_ok hP) .nil) [0, 1] [0] [0] (S_tlState cells 80) (fun s' => s'.dropWhile (inSet cells) = s.dropWhile (inSet cells)) List.length s rfl h0 fun s' hs' => ?_
  have hrn := hc.rn
  cases s' with
  | nil =>
    rw [nf_trimLeftA_nil]
    simp only [hrn]
    rw [← hs'] at hQ
    exact hQ
  | cons x r =>
    rw [nf_trimLeftA_cons]
    simp only [hrn]
    have ex : UInt8.ofNat (Int.toNat (↑(UInt8.toNat (List.getD (x :: r) (Int.toNat 0) 0)))) = x := by simp
    have hx : (List.getD (x :: r) (Int.toNat 0) 0) = x := rfl
    have hlt : x.toNat < 256 := x.toNat_lt
    have hlen : (((x :: r).length : Nat) : Int) = (r.length : Int) + 1 := by simp
    rw [hx] at ex
    simp only [hx, ex, hlen]
    refine condP_intro (fun _ => ⟨by omega, ⟨hc, by omega, by omega⟩, condP_intro (fun h => ?_) (fun h => ?_)⟩) (fun h => ?_)
    · have h : inSet cells x = false := by simpa using h
      rw [← hs', List.dropWhile_cons, h] at hQ
      exact hQ
    · have h : inSet cells x = true := by simpa using h
      refine ⟨by omega, r, rfl, ?_, by simp⟩
      rw [← hs', List.dropWhile_cons, h]; rfl
    · have := of_decide_eq_false h; omega

theorem trimLeftA_ok (hP : C.P = Tryd.prog) : SpecOK C 47 S_trimLeftA := by
  rintro args objs U Os vc h hvc
  unfold S_trimLeftA at h
  split at h <;> simp only [Option.some.injEq, Prod.mk.injEq, reduceCtorEq] at h
  rename_i s cells
  obtain ⟨rfl, rfl, rfl⟩ := h
  refine SpecOK.wpL (prg hP) [] [(1, L_trimLeftA s cells 80)] 0 .nil (hP ▸ Tryd.func47) rfl rfl rfl [(loopC Tryd.f47 1, L_trimLeftA s cells 80)] (by kernel_rfl) ⟨trimLeftA_loop hP s cells, trivial⟩ ?_
  rw [nf_trimLeftA]
  simp only [hvc.rn]
  exact ⟨trivial, hvc, by simp⟩

theorem trimRightA_loop (hP : C.P = Tryd.prog) (s : List UInt8) (cells : List AV) : LoopOK C 1 22 (loopC Tryd.f48 1) (L_trimRightA s cells 80) := by
  rintro st Q ⟨h0, hc, hm, hQ⟩
  refine LoopOK.mk (prg hP) [(59, .det S_setContains)] 0 (.cons (setContains_ok hP) .nil) [0, 1] [0] [0] (S_tlState cells 80) (fun s' => dropR (inSet cells) s' = dropR (inSet cells) s ∧ s'.length ≤ maxLen) List.length s ⟨rfl, hm⟩ h0 fun s' hs' => ?_
  have hrn := hc.rn
  obtain ⟨hs', hm'⟩ := hs'
  have hm2 : s'.length ≤ 9223372036854775807 := hm'
  rw [nf_trimRightA_round]
  simp only [hrn]
  rcases snoc_cases s' with rfl | ⟨r, x, rfl⟩
  · refine condP_intro (fun h => ?_) (fun _ => ?_)
    · have := of_decide_eq_true h; simp at this
    · rw [← hs'] at hQ; exact hQ
  · have hlen : (((r ++ [x]).length : Nat) : Int) = (r.length : Int) + 1 := by simp
    have e1 : ((r.length : Int) + 1 - 1).toNat = r.length := by omega
    have hx : (r ++ [x]).getD r.length 0 = x := by simp
    have ht : (r ++ [x]).take r.length = r := by simp
    have ex : UInt8.ofNat ((x.toNat : Int)).toNat = x := by simp
    have hlt : x.toNat < 256 := x.toNat_lt
    have hlr : (r ++ [x]).length = r.length + 1 := by simp
    simp only [hlen, e1, hx, ht, ex, inR]
    refine condP_intro (fun _ => ⟨by omega, by omega, ⟨hc, by omega, by omega⟩, condP_intro (fun h => ?_) (fun h => ?_)⟩) (fun h => ?_)
    · have h : inSet cells x = false := by simpa using h
      rw [← hs', dropR_snoc, h] at hQ
      exact hQ
    · have h : inSet cells x = true := by simpa using h
      refine ⟨by omega, by omega, r, rfl, ⟨?_, ?_⟩, by omega⟩
      · rw [← hs', dropR_snoc, h]; rfl
      · show r.length ≤ 9223372036854775807
        omega
    · have := of_decide_eq_false h; omega

theorem trimRightA_ok (hP : C.P = Tryd.prog) : SpecOK C 48 S_trimRightA := by
  rintro args objs U Os vc h hvc
  unfold S_trimRightA at h
  split at h <;> simp only [Option.some.injEq, Prod.mk.injEq, reduceCtorEq] at h
  rename_i s cells
  obtain ⟨rfl, rfl, rfl⟩ := h
  refine SpecOK.wpL (prg hP) [] [(1, L_trimRightA s cells 80)] 0 .nil (hP ▸ Tryd.func48) rfl rfl rfl [(loopC Tryd.f48 1, L_trimRightA s cells 80)] (by kernel_rfl) ⟨trimRightA_loop hP s cells, trivial⟩ ?_
  rw [nf_trimRightA]
  simp only [hvc.1.rn]
  exact ⟨trivial, hvc.1, hvc.2, by simp⟩


theorem setCells_V {w : World} {M : Nat → Prop} {bs : Nat → Option Hd} (l : List UInt8) : CellsV w M bs (Lib.setCells l) (setAV l) := by
  have hs : (Lib.setCells l).size = 256 := Lib.setCells_size l
  have hl : (setAV l).length = 256 := (setAV_ok l).1
  have at_ : ∀ j, j < 256 → (Lib.setCells l)[j]? = some (.bool (l.contains (UInt8.ofNat j))) := by
    intro j hj
    have := Lib.setCells_at l (UInt8.ofNat j)
    have e : (UInt8.ofNat j).toNat = j := by simp; omega
    rwa [e] at this
  refine ⟨by rw [hs, hl], fun j v hv => ?_, fun j v u hv hu => ?_⟩
  · have hj : j < 256 := by rw [← hs]; exact (Array.getElem?_eq_some_iff.1 hv).1
    rw [at_ j hj] at hv
    cases hv; rfl
  · have hj : j < 256 := by rw [← hs]; exact (Array.getElem?_eq_some_iff.1 hv).1
    rw [at_ j hj] at hv
    cases hv
    have : (setAV l)[j]? = some (.bool (l.contains (UInt8.ofNat j))) := by unfold setAV; simp [hj]
    rw [this] at hu
    cases hu
    exact .bool

theorem makeSet_ok (hP : C.P = Tryd.prog) : SpecOK C 46 S_makeSet := by
  rintro args objs U Os vc h hvc
  unfold S_makeSet at h
  split at h <;> simp only [Option.some.injEq, Prod.mk.injEq, reduceCtorEq] at h
  rename_i l
  obtain ⟨rfl, rfl, rfl⟩ := h
  obtain ⟨hl, hascii⟩ := hvc
  refine ACalls.below ⟨Tryd.f46, hP ▸ Tryd.func46, rfl, by decide⟩ fun w M cargs _ _ hM hlen hv => ?_
  obtain ⟨a, rfl⟩ := mem1 hlen
  have e1 := (hv 0 _ _ rfl rfl).str_iff
  subst e1
  rw [hP]
  refine (Tryd.strings_makeASCIISet (fun w => Tryd.zeroValue80 w) ⟨l.toArray⟩ w (by simpa [ByteArray.size] using hl) (fun j b hb => hascii b (by simpa using List.mem_of_getElem? hb))).mono ?_
  rintro e w' ⟨rfl, rfl⟩
  have hc := setCells_V (w := w.alloc (.cells (Lib.setCells l) 80)) (M := M) (bs := nob) l
  refine ⟨_, rfl, (Below.refl _ _).alloc (Nat.le_refl _) _, .tuple rfl fun j v u hv hu => ?_⟩
  match j with
  | 0 => simp at hv hu; subst hv; subst hu; exact .agg hc.1 hc.2.1 hc.2.2
  | 1 => simp at hv hu; subst hv; subst hu; exact .bool
  | j + 2 => simp at hv

def teSet : TE := [(80, { desc := .array 256 4, sz := 256, bytes := 256, zero := .agg (Array.replicate 256 (.bool false)) })]

@[irreducible] def zeroSet : List AV := List.replicate 256 (.bool false)

theorem avcs_bool (n : Nat) : avcs (List.replicate n (.bool false)) = some (List.replicate n (.bool false)) := by
  induction n with
  | zero => rfl
  | succ n ih => simp [List.replicate_succ, avcs, avc, ih]

theorem teSet_ok : TE.ok Tryd.prog teSet := by
  refine TE.ok_cons Tryd.underlying80 ⟨Tryd.t80, Tryd.type80, rfl, rfl, by kernel_rfl⟩ (fun h => by cases h) TE.ok_nil

theorem zeroSet_of : avcs (Value.agg (Array.replicate 256 (.bool false))).cells.toList = some zeroSet := by
  have e : (Value.agg (Array.replicate 256 (.bool false))).cells.toList = List.replicate 256 (Value.bool false) := Array.toList_replicate
  rw [e]
  unfold zeroSet
  exact avcs_bool 256

theorem zeroSet_len (cs : List UInt8) : zeroSet.length = (setAV cs).length := by
  rw [(setAV_ok cs).1]
  unfold zeroSet
  rw [List.length_replicate]

theorem trimSet_ok (hP : C.P = Tryd.prog) (s cs : List UInt8) : LoopOK C 0 43 (regC Tryd.f36 5) (L_trimSet s cs) := by
  rintro st Q ⟨h0, hl, hascii, hQ⟩
  refine AWP.canonIs [0, 1] h0 ?_ trivial
  have hte := (prg hP).ok
  have hts : TE.ok C.P teSet := hP ▸ teSet_ok
  have hrn := (setAV_ok cs).rn
  refine AWP.canQ (te := te) (Fe := [0, 5, 6]) (Fr := []) ?_
  show AWP C 0 43 (.region 5 (List.toArray _) false) _ _
  refine AWP.region ?_
  refine AOps.pure hte (prg hP).one rfl rfl rfl trivial ?_
  refine AOps.callD (u2 := .nil) (cobjs := []) (U := .tuple [.agg (setAV cs), .bool true]) (Os := []) (T2 := [(31, .tuple [.agg (setAV cs), .bool true]), (30, .str cs), (0, .str s), (1, .str cs)]) [] rfl rfl rfl rfl rfl rfl trivial (makeSet_ok hP [.str cs] [] _ _ _ rfl ⟨hl, hascii⟩) rfl ?_ rfl rfl ?_
  · show (31, AV.tuple [.agg (AV.rnL _ (setAV cs)), .bool true]) :: _ = _
    rw [hrn]; rfl
  refine AOps.pure hte (prg hP).one rfl rfl rfl trivial ?_
  refine AOps.pure hte (prg hP).one rfl rfl rfl trivial ?_
  refine AOps.pure hte (prg hP).one rfl rfl rfl trivial ?_
  refine AOps.step (l := [(_, .cells zeroSet 80)]) rfl (OpStep.allocW hts (t := 80) rfl rfl rfl zeroSet_of) rfl rfl rfl rfl ?_
  refine AOps.step rfl (OpStep.storeW hts (t := 80) (new := setAV cs) rfl rfl rfl rfl rfl rfl (zeroSet_len cs) (setAV_ok cs).1) rfl rfl rfl rfl ?_
  refine AOps.pure hte (prg hP).one rfl rfl rfl trivial ?_
  refine AOps.nil ?_
  refine canQ_of (s' := ⟨[(0, .str s), (5, .ptr 0 0), (6, .bool true)], [(0, .cells (AV.rnL (ren 0 [(16, 0)]) (setAV cs)) 80)], 1, []⟩) (by simp) ?_ ?_
  · rfl
  · rw [hrn]; exact hQ

theorem trim_ok (hP : C.P = Tryd.prog) : SpecOK C 36 S_trim := by
  rintro args objs U Os vc h hvc
  unfold S_trim at h
  split at h <;> simp only [Option.some.injEq, Prod.mk.injEq, reduceCtorEq] at h
  rename_i s cs
  obtain ⟨rfl, rfl, rfl⟩ := h
  obtain ⟨hs, h2, hl, hascii⟩ := hvc
  refine SpecOK.wpL (prg hP) [(47, .det S_trimLeftA), (48, .det S_trimRightA)] [(1005, L_trimSet s cs)] 0 (.cons (trimLeftA_ok hP) (.cons (trimRightA_ok hP) .nil)) (hP ▸ Tryd.func36) rfl rfl rfl
    [(regC Tryd.f36 5, L_trimSet s cs)] (by kernel_rfl) ⟨trimSet_ok hP s cs, trivial⟩ ?_
  rw [nf_trim]
  have hrn := (setAV_ok cs).rn
  have hc1 : ∀ h : (cs.length : Int) = 1, False := by intro h; omega
  have hin : inSet (setAV cs) = (cs.contains ·) := funext (inSet_setAV cs)
  simp only [hrn, hin]
  refine condP_intro (fun h => ?_) (fun _ => condP_intro (fun h => ?_) (fun _ => condP_intro (fun h => ?_) (fun _ => ?_)))
  · have h := of_decide_eq_true h
    subst h
    simp [trimF, dropR]
  · have h := of_decide_eq_true h
    subst h
    simp at h2
  · exact (hc1 (of_decide_eq_true h)).elim
  · exact ⟨trivial, hl, hascii, ⟨setAV_ok cs, hs⟩, setAV_ok cs, rfl, trivial⟩

end Go.Eng

/- What the package product computes: plain functions. -/
namespace Go.Eng

def isDig (c : UInt8) : Bool := decide (48 ≤ c.toNat) && decide (c.toNat ≤ 57)
def digitsF (s : List UInt8) (a b : Int) : Bool := (decide ((s.length : Int) = a) || decide ((s.length : Int) = b)) && s.all isDig
def S_digits : Spec
  | [.str s, .int .i64 a, .int .i64 b], [] => some (.bool (digitsF s a b), [], a ≤ 100 ∧ b ≤ 100)
  | _, _ => none
/-- The weighted sum of the first i digits. -/
def cdSum (s : List UInt8) : Nat → Int
  | 0 => 0
  | i + 1 => cdSum s i + (1 + 2 * (((s.length : Int) - i) % 2)) * ((s.getD i 0).toNat - 48)
def cdF (s : List UInt8) : Int × Bool := match digitsF s 7 12 with
  | true => ((10 - cdSum s s.length % 10) % 10, true)
  | false => (0, false)
def S_checkDigit : Spec
  | [.str s], [] => some (.tuple [.int .i64 (cdF s).1, .bool (cdF s).2], [], True)
  | _, _ => none
def S_cd (s : List UInt8) (k : Nat) : St := ⟨[(0, .str s), (4, .int .i64 (cdSum s k)), (11, .int .i64 s.length), (12, .int .i64 k)], [], 0, []⟩
/-- The loop of CheckDigit. -/
def L_checkDigit (s : List UInt8) : LSpec := fun st Q => canonIs te 0 [0, 4, 11, 12] st (S_cd s 0) ∧ s.length ≤ 12 ∧ s.all isDig = true ∧
  Q (.exit 0) ⟨[(4, .int .i64 (cdSum s s.length))], [], 0, []⟩
def validIDF (s : List UInt8) : Bool := match digitsF s 8 13 with
  | true => decide ((cdF (s.take (s.length - 1))).1 = ((s.getD (s.length - 1) 0).toNat : Int) - 48)
  | false => false
def S_validID : Spec
  | [.str s], [] => some (.bool (validIDF s), [], True)
  | _, _ => none

theorem isDig_at {s : List UInt8} (h : s.all isDig = true) (k : Nat) (hk : k < s.length) : 48 ≤ (s.getD k 0).toNat ∧ (s.getD k 0).toNat ≤ 57 := by
  have := List.all_eq_true.1 h (s.getD k 0) (by simp [List.getD, hk])
  simpa [isDig] using this

theorem isDig_contains (b : UInt8) : ([48, 49, 50, 51, 52, 53, 54, 55, 56, 57] : List UInt8).contains b = isDig b := by
  have : ∀ n, n < 256 → ([48, 49, 50, 51, 52, 53, 54, 55, 56, 57] : List UInt8).contains (UInt8.ofNat n) = isDig (UInt8.ofNat n) := by decide +kernel
  have h := this b.toNat b.toNat_lt
  simpa using h

theorem dropWhile_nil {p : UInt8 → Bool} : ∀ {s : List UInt8}, s.dropWhile p = [] ↔ s.all p = true
  | [] => by simp
  | x :: s => by
    simp only [List.dropWhile_cons, List.all_cons]
    cases hx : p x <;> simp [dropWhile_nil]

theorem dropWhile_all {p : UInt8 → Bool} : ∀ {r : List UInt8}, (r.dropWhile p).all p = true → r.all p = true
  | [], h => h
  | x :: r, h => by
    rw [List.dropWhile_cons] at h
    cases hx : p x with
    | true =>
      rw [hx, if_pos rfl] at h
      rw [List.all_cons, hx, dropWhile_all h]; rfl
    | false => rw [hx, if_neg (by simp), List.all_cons, hx] at h; cases h

theorem all_rev {p : UInt8 → Bool} (s : List UInt8) : s.reverse.all p = s.all p := by simp

theorem trimF_nil (c s : List UInt8) : trimF c s = [] ↔ s.all (c.contains ·) = true := by
  unfold trimF dropR
  rw [dropWhile_nil, all_rev]
  constructor
  · intro h
    rw [← all_rev]
    exact dropWhile_all h
  · intro h
    rw [← all_rev] at h
    rw [dropWhile_nil.2 h]; rfl

theorem trimF_digits (s : List UInt8) : decide (trimF [48, 49, 50, 51, 52, 53, 54, 55, 56, 57] s = []) = s.all isDig := by
  have h := trimF_nil [48, 49, 50, 51, 52, 53, 54, 55, 56, 57] s
  simp only [isDig_contains] at h
  cases hb : s.all isDig with
  | true => exact decide_eq_true (h.2 hb)
  | false => exact decide_eq_false fun he => by rw [h.1 he] at hb; cases hb

end Go.Eng

/- The package product: its functions compute what the plain functions say. -/
namespace Go.Eng
open Go.Proofs
set_option maxRecDepth 20000

theorem nf_digits (s : List UInt8) (a b : Int) (R : AV → List (Nat × AObj) → Prop) : wpFn te [(36, .det S_trim)] [] 0 Tryd.f34 [.str s, .int .i64 a, .int .i64 b] [] R = (condP (decide ((↑(List.length s) : Int) = a)) ((List.length s ≤ 9223372036854775807 ∧ 2 ≤ 10 ∧ 10 < 4294967281 ∧ ∀ (b : UInt8), b ∈ [(48 : UInt8), 49, 50, 51, 52, 53, 54, 55, 56, 57] → UInt8.toNat b < 128) ∧ R (.bool (decide (trimF ([(48 : UInt8), 49, 50, 51, 52, 53, 54, 55, 56, 57]) s = []))) []) (condP (decide ((↑(List.length s) : Int) = b)) ((List.length s ≤ 9223372036854775807 ∧ 2 ≤ 10 ∧ 10 < 4294967281 ∧ ∀ (b : UInt8), b ∈ [(48 : UInt8), 49, 50, 51, 52, 53, 54, 55, 56, 57] → UInt8.toNat b < 128) ∧ R (.bool (decide (trimF ([(48 : UInt8), 49, 50, 51, 52, 53, 54, 55, 56, 57]) s = []))) []) (R (.bool false) []))) := by kernel_rfl
theorem nf_checkDigit (s : List UInt8) (R : AV → List (Nat × AObj) → Prop) : wpFn te [(34, .det S_digits)] [(5, L_checkDigit s)] 0 Tryd.f29 [.str s] [] R = (((7 : Int) ≤ (100 : Int) ∧ (12 : Int) ≤ (100 : Int)) ∧ condP (!digitsF s (7 : Int) (12 : Int)) (R (.tuple [.int .i64 0, .bool false]) []) (some (St.mk [(0, .str s), (4, .int .i64 0), (11, .int .i64 (↑(List.length s) : Int)), (12, .int .i64 0)] [] 0 []) = some (St.mk [(0, .str s), (4, .int .i64 (cdSum s 0)), (11, .int .i64 (↑(List.length s) : Int)), (12, .int .i64 (↑0 : Int))] [] 0 []) ∧ List.length s ≤ 12 ∧ List.all s isDig = true ∧ (10 : Int) ≠ (0 : Int) ∧ inR .i64 ((10 : Int) - Int.tmod (cdSum s (List.length s)) (10 : Int)) ∧ (10 : Int) ≠ (0 : Int) ∧ R (.tuple [.int .i64 (Int.tmod ((10 : Int) - Int.tmod (cdSum s (List.length s)) (10 : Int)) (10 : Int)), .bool true]) [])) := by kernel_rfl
theorem nf_checkDigit_loop (s : List UInt8) (k : Nat) (P : Nat → Prop) (R : Exit → St → Prop) : roundP ⟨te, [], [], 0, 36, 0⟩ (loopB Tryd.f29 5) [0, 4, 11, 12] [4] [] (S_cd s) P R (S_cd s k) = (condP (decide ((↑k : Int) < (↑(List.length s) : Int))) (inR .i64 ((↑(List.length s) : Int) - (↑k : Int)) ∧ (2 : Int) ≠ (0 : Int) ∧ inR .i64 ((2 : Int) * Int.tmod ((↑(List.length s) : Int) - (↑k : Int)) (2 : Int)) ∧ inR .i64 ((1 : Int) + (2 : Int) * Int.tmod ((↑(List.length s) : Int) - (↑k : Int)) (2 : Int)) ∧ ((0 : Int) ≤ (↑k : Int) ∧ (↑k : Int) < (↑(List.length s) : Int)) ∧ inR .i64 (((↑(UInt8.toNat (List.getD s (Int.toNat (↑k : Int)) (0 : UInt8))) : Int) - (48 : Int)) % (256 : Int)) ∧ inR .i64 (((1 : Int) + (2 : Int) * Int.tmod ((↑(List.length s) : Int) - (↑k : Int)) (2 : Int)) * (((↑(UInt8.toNat (List.getD s (Int.toNat (↑k : Int)) (0 : UInt8))) : Int) - (48 : Int)) % (256 : Int))) ∧ inR .i64 (cdSum s k + ((1 : Int) + (2 : Int) * Int.tmod ((↑(List.length s) : Int) - (↑k : Int)) (2 : Int)) * (((↑(UInt8.toNat (List.getD s (Int.toNat (↑k : Int)) (0 : UInt8))) : Int) - (48 : Int)) % (256 : Int))) ∧ inR .i64 ((↑k : Int) + (1 : Int)) ∧ ∃ (i' : Nat), some (St.mk [(0, .str s), (4, .int .i64 (cdSum s k + ((1 : Int) + (2 : Int) * Int.tmod ((↑(List.length s) : Int) - (↑k : Int)) (2 : Int)) * (((↑(UInt8.toNat (List.getD s (Int.toNat (↑k : Int)) (0 : UInt8))) : Int) - (48 : Int)) % (256 : Int)))), (11, .int .i64 (↑(List.length s) : Int)), (12, .int .i64 ((↑k : Int) + (1 : Int)))] [] 0 []) = some (St.mk [(0, .str s), (4, .int .i64 (cdSum s i')), (11, .int .i64 (↑(List.length s) : Int)), (12, .int .i64 (↑i' : Int))] [] 0 []) ∧ P i') (R (.exit 0) (St.mk [(4, .int .i64 (cdSum s k))] [] 0 []))) := by kernel_rfl
theorem nf_validID (s : List UInt8) (R : AV → List (Nat × AObj) → Prop) : wpFn te [(34, .det S_digits), (29, .det S_checkDigit)] [] 0 Tryd.f21 [.str s] [] R = (((8 : Int) ≤ (100 : Int) ∧ (13 : Int) ≤ (100 : Int)) ∧ condP (!digitsF s (8 : Int) (13 : Int)) (R (.bool false) []) (inR .i64 ((↑(List.length s) : Int) - (1 : Int)) ∧ ((0 : Int) ≤ (↑(List.length s) : Int) - (1 : Int) ∧ (↑(List.length s) : Int) - (1 : Int) ≤ (↑(List.length s) : Int)) ∧ True ∧ ((0 : Int) ≤ (↑(List.length s) : Int) - (1 : Int) ∧ (↑(List.length s) : Int) - (1 : Int) < (↑(List.length s) : Int)) ∧ inR .i64 (((↑(UInt8.toNat (List.getD s (Int.toNat ((↑(List.length s) : Int) - (1 : Int))) (0 : UInt8))) : Int) - (48 : Int)) % (256 : Int)) ∧ R (.bool (decide (Prod.fst (cdF (List.take (Int.toNat ((↑(List.length s) : Int) - (1 : Int))) s)) = ((↑(UInt8.toNat (List.getD s (Int.toNat ((↑(List.length s) : Int) - (1 : Int))) (0 : UInt8))) : Int) - (48 : Int)) % (256 : Int)))) [])) := by kernel_rfl


variable {C : Ctx}

theorem digits_ok (hP : C.P = Tryd.prog) (htrim : SpecOK C 36 S_trim) : SpecOK C 34 S_digits := by
  rintro args objs U Os vc h hvc
  unfold S_digits at h
  split at h <;> simp only [Option.some.injEq, Prod.mk.injEq, reduceCtorEq] at h
  rename_i s a b
  obtain ⟨rfl, rfl, rfl⟩ := h
  refine SpecOK.wp0 (prg hP) [(36, .det S_trim)] 0 (.cons htrim .nil) (hP ▸ Tryd.func34) rfl rfl rfl ?_
  rw [nf_digits]
  have hm : (9223372036854775807 : Nat) = maxLen := rfl
  have hlt : ∀ b ∈ ([48, 49, 50, 51, 52, 53, 54, 55, 56, 57] : List UInt8), UInt8.toNat b < 128 := by decide
  refine condP_intro (fun h => ?_) (fun h => condP_intro (fun h' => ?_) (fun h' => ?_))
  · have h2 := of_decide_eq_true h
    refine ⟨⟨by omega, by omega, by omega, hlt⟩, ?_, rfl⟩
    simp only [digitsF, h, Bool.true_or, Bool.true_and, trimF_digits]
  · have h2 := of_decide_eq_true h'
    refine ⟨⟨by omega, by omega, by omega, hlt⟩, ?_, rfl⟩
    simp only [digitsF, h', Bool.or_true, Bool.true_and, trimF_digits]
  · simp [digitsF, h, h']

theorem cdSum_bound {s : List UInt8} (h : s.all isDig = true) : ∀ k, k ≤ s.length → 0 ≤ cdSum s k ∧ cdSum s k ≤ 27 * k
  | 0, _ => by simp [cdSum]
  | k + 1, hk => by
    have ih := cdSum_bound h k (by omega)
    have hd := isDig_at h k (by omega)
    simp only [cdSum]
    rcases Int.emod_two_eq (↑s.length - ↑k) with e | e <;> rw [e] <;> omega

theorem cd_loop_ok (hP : C.P = Tryd.prog) (s : List UInt8) : LoopOK C 0 36 (loopC Tryd.f29 5) (L_checkDigit s) := by
  rintro st Q ⟨h0, hlen, hall, hQ⟩
  refine LoopOK.mk (prg hP) [] 0 .nil [0, 4, 11, 12] [4] [] (S_cd s) (fun k => k ≤ s.length) (fun k => s.length - k) 0 (Nat.zero_le _) h0 fun k hk => ?_
  rw [nf_checkDigit_loop]
  have hb := cdSum_bound hall k hk
  refine condP_intro (fun h => ?_) (fun h => ?_)
  · have h := of_decide_eq_true h
    have hd := isDig_at hall k (by omega)
    have e : Int.tmod (↑s.length - ↑k) 2 = (↑s.length - ↑k) % 2 := Int.tmod_eq_emod_of_nonneg (by omega)
    have e3 : ((s.getD k 0).toNat - 48 : Int) % 256 = (s.getD k 0).toNat - 48 := by omega
    simp only [inR, e, Int.toNat_natCast, e3]
    have hs : cdSum s (k + 1) = cdSum s k + (1 + 2 * ((↑s.length - ↑k) % 2)) * (↑(s.getD k 0).toNat - 48) := rfl
    rcases Int.emod_two_eq (↑s.length - ↑k) with e | e <;> rw [e] at hs ⊢ <;> and_intros <;> first
      | omega
      | exact ⟨k + 1, by rw [hs]; rfl, by omega, by omega⟩
  · have h := of_decide_eq_false h
    have hk : k = s.length := by omega
    rw [hk]; exact hQ

theorem checkDigit_ok (hP : C.P = Tryd.prog) (htrim : SpecOK C 36 S_trim) : SpecOK C 29 S_checkDigit := by
  rintro args objs U Os vc h hvc
  unfold S_checkDigit at h
  split at h <;> simp only [Option.some.injEq, Prod.mk.injEq, reduceCtorEq] at h
  rename_i s
  obtain ⟨rfl, rfl, rfl⟩ := h
  refine SpecOK.wpL (prg hP) [(34, .det S_digits)] [(5, L_checkDigit s)] 0 (.cons (digits_ok hP htrim) .nil) (hP ▸ Tryd.func29) rfl rfl rfl [(loopC Tryd.f29 5, L_checkDigit s)] (by kernel_rfl) ⟨cd_loop_ok hP s, trivial⟩ ?_
  rw [nf_checkDigit]
  refine ⟨by omega, condP_intro (fun h => ?_) (fun h => ?_)⟩
  · have h : digitsF s 7 12 = false := by simpa using h
    simp [cdF, h]
  · have h : digitsF s 7 12 = true := by simpa using h
    have h' := h
    simp only [digitsF, Bool.and_eq_true, Bool.or_eq_true, decide_eq_true_eq] at h'
    have hb := cdSum_bound h'.2 s.length (Nat.le_refl _)
    have e : Int.tmod (cdSum s s.length) 10 = cdSum s s.length % 10 := Int.tmod_eq_emod_of_nonneg (by omega)
    rw [e, Int.tmod_eq_emod_of_nonneg (by omega)]
    refine ⟨rfl, by omega, h'.2, by omega, by simp only [inR]; omega, by omega, ?_, rfl⟩
    simp [cdF, h]

theorem validID_ok (hP : C.P = Tryd.prog) (htrim : SpecOK C 36 S_trim) : SpecOK C 21 S_validID := by
  rintro args objs U Os vc h hvc
  unfold S_validID at h
  split at h <;> simp only [Option.some.injEq, Prod.mk.injEq, reduceCtorEq] at h
  rename_i s
  obtain ⟨rfl, rfl, rfl⟩ := h
  refine SpecOK.wp0 (prg hP) [(34, .det S_digits), (29, .det S_checkDigit)] 0 (.cons (digits_ok hP htrim) (.cons (checkDigit_ok hP htrim) .nil)) (hP ▸ Tryd.func21) rfl rfl rfl ?_
  rw [nf_validID]
  refine ⟨by omega, condP_intro (fun h => ?_) (fun h => ?_)⟩
  · have h : digitsF s 8 13 = false := by simpa using h
    simp [validIDF, h]
  · have h : digitsF s 8 13 = true := by simpa using h
    have h' := h
    simp only [digitsF, Bool.and_eq_true, Bool.or_eq_true, decide_eq_true_eq] at h'
    have e : (↑s.length - 1 : Int).toNat = s.length - 1 := by omega
    have hd := isDig_at h'.2 (s.length - 1) (by omega)
    rw [e]
    have e2 : ((s.getD (s.length - 1) 0).toNat - 48 : Int) % 256 = (s.getD (s.length - 1) 0).toNat - 48 := by omega
    simp only [inR, e2]
    refine ⟨by omega, by omega, trivial, by omega, by omega, ?_, trivial⟩
    simp [validIDF, h]

end Go.Eng

