/- DERIVED: THE SHELF's CONTRACTS AT THIS DUMP, IN PLAIN WORDS (tools/lay-plain.mjs out of 'TryzSortL.lean', which tools/lay-shelf.mjs wrote): THE SAME DECLARATIONS UNDER THE SAME NAMES: 'import', 'namespace', 'open', 'def', 'theorem' AND NOTHING ELSE: no command of the shelf's: FOR A HAND-IN. Each laying: the table of numbers ('.._ren') and one theorem, a field a fact of the dump's own or the kernel's comparison; each contract: ONE APPLICATION. -/
import Derived.Test.YtgcboligphndhaaGreatDoorEo
import Derived.Shelf.SlGeneric
import Derived.Ground.Names8Prog
import Derived.Shelf.Spec.SlicesGrow
import Derived.Test.YtgcboligphndhaaGreatDoorProg
import Derived.Test.YtgcboligphndhaaGreatDoorEn
import Derived.Test.YtgcboligphndhaaGreatDoorEd
import Derived.Test.YtgcboligphndhaaGreatDoorEc
import Derived.Test.YtgcboligphndhaaGreatDoorEl
import Derived.Ground.SlsfProg
import Derived.Shelf.SlSortCmp.NoneTotal
namespace Go.Eng
def atM (L : List MG) (i : Nat) : MG := L.getD i default
def flL (g : Nat → MG) (k : Nat) : List MG := (lst g k).filter okM
structure MG.Sm (m : MG) : Prop where
  a : m.dev.length < 4294967281
  b : m.v.o.length < 4294967281
  c : m.d.o.length < 4294967281
  d : m.d.dev.length < 4294967281
def nn2 (n m i : Nat) : Nat := if i = 0 then n else m
def gg2 (g h : Nat → MG) (i : Nat) : Nat → MG := if i = 0 then g else h
def mrgL (g : Nat → MG) (n : Nat) (h : Nat → MG) (m : Nat) : List MG := mrgF (lst g n ++ lst h m)
def S_mg (g : Nat → MG) (n k : Nat) : St := ⟨[(5, .own 0 (flL g k).length), (11, .view 15 n (mgRow g)), (12, .int .i64 n), (13, .int .i64 k)], [(0, .row 40 15 (flL g k).length (mgRow (atM (flL g k))) false)], 1, []⟩
def L_mg (g : Nat → MG) (n : Nat) : LSpec := fun st Q => canonIs te 0 [5, 11, 12, 13] (ownNil 5 40 15 st) (S_mg g n 0) ∧ n ≤ 200000 ∧ (∀ i, i < n → (g i).Sm) ∧
  Q (.exit 0) ⟨[(5, .own 0 (flL g n).length)], [(0, .row 40 15 (flL g n).length (mgRow (atM (flL g n))) false)], 1, []⟩
def S_mrg : Spec
  | [.view 15 n f, .view 15 m h], [] => some (.own 0 (mrgL (mgOf f) n (mgOf h) m).length, [(0, .row 40 15 (mrgL (mgOf f) n (mgOf h) m).length (mgRow (atM (mrgL (mgOf f) n (mgOf h) m))) false)],
      n ≤ 100000 ∧ m ≤ 100000 ∧ f = mgRow (mgOf f) ∧ h = mgRow (mgOf h) ∧ (∀ i, i < n → (mgOf f i).Sm) ∧ ∀ i, i < m → (mgOf h i).Sm)
  | _, _ => none
end Go.Eng
namespace Go.Eng
def mk2 (m : MG) : List UInt8 × Int := (m.dev, m.seq)
def addC : List ((List UInt8 × Int) × Int) → List UInt8 × Int → List ((List UInt8 × Int) × Int)
  | [], p => [(p, 1)]
  | x :: l, p => bif decide (x.1.1 = p.1) && decide (x.1.2 = p.2) then (p, x.2 + 1) :: l else x :: addC l p
def getC : List ((List UInt8 × Int) × Int) → List UInt8 × Int → Int
  | [], _ => 0
  | x :: l, p => bif decide (x.1.1 = p.1) && decide (x.1.2 = p.2) then x.2 else getC l p
def cntL (g : Nat → MG) : Nat → List ((List UInt8 × Int) × Int)
  | 0 => []
  | k + 1 => addC (cntL g k) (mk2 (g k))
def numC (g : Nat → MG) (p : List UInt8 × Int) : Nat → Int
  | 0 => 0
  | k + 1 => numC g p k + bif decide ((mk2 (g k)).1 = p.1) && decide ((mk2 (g k)).2 = p.2) then 1 else 0
theorem same2 {a b : List UInt8 × Int} : (decide (a.1 = b.1) && decide (a.2 = b.2)) = true ↔ a = b := by
  simp [Prod.ext_iff]
theorem getC_addC (q p : List UInt8 × Int) : ∀ L, getC (addC L p) q = getC L q + bif decide (p.1 = q.1) && decide (p.2 = q.2) then 1 else 0
  | [] => by
    show (bif decide (p.1 = q.1) && decide (p.2 = q.2) then (1 : Int) else 0) = 0 + bif decide (p.1 = q.1) && decide (p.2 = q.2) then 1 else 0
    generalize (decide (p.1 = q.1) && decide (p.2 = q.2)) = b
    cases b <;> rfl
  | x :: l => by
    have ih := getC_addC q p l
    rw [addC]
    cases h : decide (x.1.1 = p.1) && decide (x.1.2 = p.2) with
    | true =>
      have e := same2.1 h
      show getC ((p, x.2 + 1) :: l) q = getC (x :: l) q + _
      rw [getC, getC, e]
      cases h2 : decide (p.1 = q.1) && decide (p.2 = q.2) with
      | true => rfl
      | false => show getC l q = getC l q + 0; omega
    | false =>
      show getC (x :: addC l p) q = getC (x :: l) q + _
      rw [getC, getC]
      cases h2 : decide (x.1.1 = q.1) && decide (x.1.2 = q.2) with
      | true =>
        have e := same2.1 h2
        have : (decide (p.1 = q.1) && decide (p.2 = q.2)) = false := by
          cases r : decide (p.1 = q.1) && decide (p.2 = q.2) with
          | false => rfl
          | true => rw [e, ← same2.1 r] at h; simp at h
        rw [this]; show x.2 = x.2 + 0; omega
      | false => exact ih
theorem getC_cntL (g : Nat → MG) (q : List UInt8 × Int) : ∀ k, getC (cntL g k) q = numC g q k
  | 0 => rfl
  | k + 1 => by rw [cntL, getC_addC, getC_cntL g q k, numC]
theorem numC_le (g : Nat → MG) (q : List UInt8 × Int) : ∀ k, 0 ≤ numC g q k ∧ numC g q k ≤ k
  | 0 => by simp [numC]
  | k + 1 => by
    have := numC_le g q k
    rw [numC]
    cases decide ((mk2 (g k)).1 = q.1) && decide ((mk2 (g k)).2 = q.2) <;> simp <;> omega
theorem addC_keys (p : List UInt8 × Int) : ∀ (L : List ((List UInt8 × Int) × Int)) (x : List UInt8 × Int), x ∈ (addC L p).map Prod.fst → x ∈ L.map Prod.fst ∨ x = p
  | [], x, h => by simpa [addC] using h
  | y :: l, x, h => by
    rw [addC] at h
    cases e : decide (y.1.1 = p.1) && decide (y.1.2 = p.2) with
    | true =>
      rw [e] at h
      rcases List.mem_cons.1 h with h | h
      · exact .inr h
      · exact .inl (List.mem_cons_of_mem _ h)
    | false =>
      rw [e] at h
      rcases List.mem_cons.1 h with h | h
      · exact .inl (by rw [h]; exact List.mem_cons_self ..)
      · rcases addC_keys p l x h with h | h
        · exact .inl (List.mem_cons_of_mem _ h)
        · exact .inr h
theorem addC_nodup (p : List UInt8 × Int) : ∀ {L : List ((List UInt8 × Int) × Int)}, (L.map Prod.fst).Nodup → ((addC L p).map Prod.fst).Nodup
  | [], _ => by simp [addC]
  | y :: l, h => by
    obtain ⟨h1, h2⟩ := List.nodup_cons.1 (show (y.1 :: l.map Prod.fst).Nodup from h)
    rw [addC]
    cases e : decide (y.1.1 = p.1) && decide (y.1.2 = p.2) with
    | true =>
      have e' := same2.1 e
      exact List.nodup_cons.2 ⟨by rw [← e']; exact h1, h2⟩
    | false =>
      refine List.nodup_cons.2 ⟨fun q => ?_, addC_nodup p h2⟩
      rcases addC_keys p l y.1 q with q | q
      · exact h1 q
      · rw [q] at e; simp at e
theorem cntL_nodup (g : Nat → MG) : ∀ k, ((cntL g k).map Prod.fst).Nodup
  | 0 => by simp [cntL]
  | k + 1 => addC_nodup _ (cntL_nodup g k)
end Go.Eng
namespace Go.Eng
def entM (L : List ((List UInt8 × Int) × Int)) : List (AV × AV) := L.map fun x => (.agg [.str x.1.1, .int .i64 x.1.2], .int .i64 x.2)
def S_mark : Spec
  | [.agg [.str dev, .int .i64 seq, .int .i64 _, .str _, .str _, .int .i64 _, .int .i64 _, .int .i64 _, .int .i64 _, .str _, .str _, .str _, .int .i64 _, .str _, .int .i64 _]], [] => some (.agg [.str dev, .int .i64 seq], [], True)
  | _, _ => none
def S_counts : Spec
  | [.own 0 n], [.row t 15 m f fr] => some (.map 1, [(0, .row 40 15 n f false), (1, .amap (entM (cntL (mgOf f) n)))], t = 40 ∧ fr = false ∧ n = m ∧ n ≤ 1000000 ∧ f = mgRow (mgOf f))
  | _, _ => none
def S_ct (g : Nat → MG) (n k : Nat) : St := ⟨[(3, .map 1), (7, .own 0 n), (8, .int .i64 n), (9, .int .i64 k)], [(0, .row 40 15 n (mgRow g) false), (1, .amap (entM (cntL g k)))], 2, []⟩
def L_ct (g : Nat → MG) (n : Nat) : LSpec := fun st Q => canonIs te 1 [3, 7, 8, 9] st (S_ct g n 0) ∧ n ≤ 1000000 ∧ Q (.exit 0) ⟨[(3, .map 1)], [(0, .row 40 15 n (mgRow g) false), (1, .amap (entM (cntL g n)))], 2, []⟩
def S_c5 (L : List ((List UInt8 × Int) × Int)) (x : MG) (g : Nat → MG) (n k : Nat) : St := ⟨[(3, .map 1), (5, .ptr 2 0), (7, .own 0 n), (8, .int .i64 n), (9, .int .i64 k)], [(0, .row 40 15 n (mgRow g) false), (1, .amap (entM L)),
  (2, .cells [.str x.dev, .int .i64 x.seq, .int .i64 x.kind, .str x.v.o, .str x.v.p, .int .i64 x.v.per, .int .i64 x.v.day, .int .i64 x.v.st, .int .i64 x.v.pr, .str x.v.rep, .str x.d.o, .str x.d.p, .int .i64 x.d.per, .str x.d.dev, .int .i64 x.d.num] 40)], 3, []⟩
def L_c5 (L : List ((List UInt8 × Int) × Int)) (x : MG) (g : Nat → MG) (n k : Nat) : LSpec := fun st Q => canonIs te 1 [3, 5, 7, 8, 9] st (S_c5 L x g n k) ∧ (L.map Prod.fst).Nodup ∧ inR .i64 (getC L (mk2 x) + 1) ∧
  Q .normal (S_c5 (addC L (mk2 x)) x g n k)
end Go.Eng
namespace Go.Eng
def fstB (q : Nat → Bool) : Nat → Nat
  | 0 => 0
  | k + 1 => bif decide (fstB q k < k) then fstB q k else (bif q k then k else k + 1)
def ixB (q : Nat → Bool) (n : Nat) : Int := bif decide (fstB q n < n) then (fstB q n : Int) else -1
theorem fstB_le (q : Nat → Bool) : ∀ k, fstB q k ≤ k
  | 0 => Nat.le_refl _
  | k + 1 => by
    have ih := fstB_le q k
    rw [fstB]
    cases decide (fstB q k < k) with
    | true => show fstB q k ≤ k + 1; omega
    | false => cases q k with
      | true => show k ≤ k + 1; omega
      | false => exact Nat.le_refl _
theorem fstB_not {q : Nat → Bool} {k : Nat} (h : fstB q k = k) (hk : q k = false) : fstB q (k + 1) = k + 1 := by
  rw [fstB, decide_eq_false (show ¬ fstB q k < k by omega), hk]; rfl
theorem fstB_at {q : Nat → Bool} {k : Nat} (h : fstB q k = k) (hk : q k = true) : ∀ n, k < n → fstB q n = k
  | 0, hn => absurd hn (Nat.not_lt_zero _)
  | n + 1, hn => by
    rw [fstB]
    by_cases e : k = n
    · subst e
      rw [decide_eq_false (show ¬ fstB q k < k by omega), hk]; rfl
    · have ih := fstB_at h hk n (by omega)
      rw [ih, decide_eq_true (show k < n by omega)]; rfl
theorem fstB_spec (q : Nat → Bool) : ∀ n, (∀ j, j < fstB q n → q j = false) ∧ (fstB q n < n → q (fstB q n) = true)
  | 0 => ⟨fun j hj => absurd hj (Nat.not_lt_zero _), fun h => absurd h (Nat.not_lt_zero _)⟩
  | n + 1 => by
    obtain ⟨h1, h2⟩ := fstB_spec q n
    have hle := fstB_le q n
    by_cases h : fstB q n < n
    · have e : fstB q (n + 1) = fstB q n := by rw [fstB, decide_eq_true h]; rfl
      rw [e]
      exact ⟨h1, fun _ => h2 h⟩
    · have h0 : fstB q n = n := by omega
      rw [h0] at h1
      cases hq : q n with
      | true =>
        have e : fstB q (n + 1) = n := by rw [fstB, decide_eq_false h, hq]; rfl
        rw [e]
        exact ⟨h1, fun _ => hq⟩
      | false =>
        have e : fstB q (n + 1) = n + 1 := fstB_not h0 hq
        rw [e]
        refine ⟨fun j hj => ?_, fun h => absurd h (Nat.lt_irrefl _)⟩
        by_cases q' : j = n
        · rw [q']; exact hq
        · exact h1 j (by omega)
def cntE (es : List (AV × AV)) (m : MG) : Int := intOf ((mget es (.agg [.str m.dev, .int .i64 m.seq])).getD (.int .i64 0))
def delF (es : List (AV × AV)) (m : MG) : Bool := decide (1 < cntE es m)
def EsOK (es : List (AV × AV)) : Prop := ∃ L : List ((List UInt8 × Int) × Int), es = entM L ∧ (L.map Prod.fst).Nodup
def S_right1 : Spec
  | [.agg [.str dev, .int .i64 seq, .int .i64 kind, .str o, .str p, .int .i64 per, .int .i64 day, .int .i64 st, .int .i64 pr, .str rep, .str o', .str p', .int .i64 per', .str dev', .int .i64 num], .ptr 0 0], [.cells [.map 1] t, .amap es] =>
      some (.bool (delF es ⟨dev, seq, kind, ⟨o, p, per, day, st, pr, rep⟩, ⟨o', p', per', dev', num⟩⟩), [(0, .cells [.map 1] t), (1, .amap es)], t = 85 ∧ EsOK es)
  | _, _ => none
def S_ixR : Spec
  | [.own 0 n, .func 119 [.ptr 1 0]], [.row t 15 m f fr, .cells [.map 2] t2, .amap es] =>
      some (.int .i64 (ixB (fun i => delF es (mgOf f i)) n), [(0, .row 40 15 n f false), (1, .cells [.map 2] 85), (2, .amap es)], t = 40 ∧ t2 = 85 ∧ fr = false ∧ n = m ∧ n ≤ 1000000 ∧ f = mgRow (mgOf f) ∧ EsOK es)
  | _, _ => none
def S_ixr (es : List (AV × AV)) (g : Nat → MG) (n k : Nat) : St := ⟨[(0, .own 0 n), (1, .func 119 [.ptr 1 0]), (7, .int .i64 n), (8, .int .i64 k)], [(0, .row 40 15 n (mgRow g) false), (1, .cells [.map 2] 85), (2, .amap es)], 3, []⟩
def L_ixr (es : List (AV × AV)) (g : Nat → MG) (n : Nat) : LSpec := fun st Q => canonIs te 3 [0, 1, 7, 8] st (S_ixr es g n 0) ∧ n ≤ 1000000 ∧ EsOK es ∧
  condP (decide (fstB (fun i => delF es (g i)) n < n)) (Q .ret ⟨[(4, .int .i64 (fstB (fun i => delF es (g i)) n))], [(0, .row 40 15 n (mgRow g) false), (1, .cells [.map 2] 85), (2, .amap es)], 3, []⟩)
    (Q (.exit 0) ⟨[], [(0, .row 40 15 n (mgRow g) false), (1, .cells [.map 2] 85), (2, .amap es)], 3, []⟩)
def kpL (es : List (AV × AV)) (g : Nat → MG) (n : Nat) : List MG := (lst g n).filter fun x => !delF es x
def R_delF : RSpec
  | [.own 0 n, .func 119 [.ptr 1 0]], [.row t 15 m f fr, .cells [.map 2] t2, .amap es], R => t = 40 ∧ t2 = 85 ∧ fr = false ∧ n = m ∧ n ≤ 1000000 ∧ f = mgRow (mgOf f) ∧ EsOK es ∧
      ∀ (k : Nat) (h : Nat → MG), lst h k = kpL es (mgOf f) n → R (.own 0 k) [(0, .row 40 15 k (mgRow h) false), (1, .cells [.map 2] 85), (2, .amap es)]
  | _, _, _ => False
def S_df (es : List (AV × AV)) (n : Nat) (i : CI) : St := ⟨[(0, .own 0 n), (1, .func 119 [.ptr 1 0]), (5, .int .i64 i.w), (6, .int .i64 i.k)], [(0, .row 40 15 n (mgRow i.h) false), (1, .cells [.map 2] 85), (2, .amap es)], 3, []⟩
def L_df (es : List (AV × AV)) (g : Nat → MG) (n i0 : Nat) : LSpec := fun st Q => canonIs te 3 [0, 1, 5, 6] st (S_df es n ⟨i0 + 1, i0, g⟩) ∧ (i0 < n ∧ n ≤ 1000000) ∧ EsOK es ∧ (∀ j, j < i0 → delF es (g j) = false) ∧ delF es (g i0) = true ∧
  ∀ (w : Nat) (h : Nat → MG), w ≤ n → lst h w = kpL es g n → Q (.exit 0) ⟨[(0, .own 0 n), (5, .int .i64 w)], [(0, .row 40 15 n (mgRow h) false), (1, .cells [.map 2] 85), (2, .amap es)], 3, []⟩
end Go.Eng
namespace Go.Eng
def noM : Nat → MG := fun _ => default
def rightL (g : Nat → MG) (n : Nat) : List MG := (mrgL g n noM 0).filter fun x => !decide (1 < numC (atM (mrgL g n noM 0)) (mk2 x) (mrgL g n noM 0).length)
def S_mrgN : Spec
  | [.view 15 n f, .nil], [] => some (.own 0 (mrgL (mgOf f) n noM 0).length, [(0, .row 40 15 (mrgL (mgOf f) n noM 0).length (mgRow (atM (mrgL (mgOf f) n noM 0))) false)],
      n ≤ 100000 ∧ f = mgRow (mgOf f) ∧ ∀ i, i < n → (mgOf f i).Sm)
  | _, _ => none
def S_right : Spec
  | [.view 15 n f], [] => some (.view 15 (rightL (mgOf f) n).length (mgRow (atM (rightL (mgOf f) n))), [], n ≤ 100000 ∧ f = mgRow (mgOf f) ∧ ∀ i, i < n → (mgOf f i).Sm)
  | _, _ => none
end Go.Eng
namespace Go.Eng
def selF (o p : List UInt8) (per : Int) (m : MG) : Bool := decide (m.kind = 1) && (decide (m.v.o = o) && (decide (m.v.p = p) && decide (m.v.per = per)))
def stpC (L : List MG) (m : MG) : List MG := bif decide (0 < L.length) && decide ((atM L (L.length - 1)).dev = m.dev) then L.take (L.length - 1) ++ [m] else L ++ [m]
def canL (o p : List UInt8) (per : Int) (g : Nat → MG) : Nat → List MG
  | 0 => []
  | k + 1 => bif selF o p per (g k) then stpC (canL o p per g k) (g k) else canL o p per g k
def S_cand : Spec
  | [.view 15 n f, .str o, .str p, .int .i64 per], [] => some (.view 15 (canL o p per (mgOf f) n).length (mgRow (atM (canL o p per (mgOf f) n))), [], n ≤ 1000000 ∧ f = mgRow (mgOf f))
  | _, _ => none
def S_cnd (o p : List UInt8) (per : Int) (g : Nat → MG) (n k : Nat) : St := ⟨[(1, .str o), (2, .str p), (3, .int .i64 per), (9, .own 0 (canL o p per g k).length), (13, .view 15 n (mgRow g)), (14, .int .i64 n), (15, .int .i64 k)], [(0, .row 40 15 (canL o p per g k).length (mgRow (atM (canL o p per g k))) false)], 1, []⟩
def L_cnd (o p : List UInt8) (per : Int) (g : Nat → MG) (n : Nat) : LSpec := fun st Q => canonIs te 0 [1, 2, 3, 9, 13, 14, 15] (ownNil 9 40 15 st) (S_cnd o p per g n 0) ∧ n ≤ 1000000 ∧
  Q (.exit 0) ⟨[(9, .own 0 (canL o p per g n).length)], [(0, .row 40 15 (canL o p per g n).length (mgRow (atM (canL o p per g n))) false)], 1, []⟩
end Go.Eng
namespace Go.Eng
def difF (x : VT) (m : MG) : Bool := !decide (m.v.st = x.st) || (!decide (m.v.pr = x.pr) || !decide (m.v.rep = x.rep))
def namF (x : DT) (m : MG) : Bool := decide (m.dev = x.dev) && decide (m.seq = x.num)
def S_rs1 : Spec
  | [.agg [.str dev, .int .i64 seq, .int .i64 kind, .str o, .str p, .int .i64 per, .int .i64 day, .int .i64 st, .int .i64 pr, .str rep, .str o', .str p', .int .i64 per', .str dev', .int .i64 num], .ptr 0 0], [.cells [.str xo, .str xp, .int .i64 xper, .int .i64 xday, .int .i64 xst, .int .i64 xpr, .str xrep] t] => some (.bool (difF ⟨xo, xp, xper, xday, xst, xpr, xrep⟩ ⟨dev, seq, kind, ⟨o, p, per, day, st, pr, rep⟩, ⟨o', p', per', dev', num⟩⟩), [(0, .cells [.str xo, .str xp, .int .i64 xper, .int .i64 xday, .int .i64 xst, .int .i64 xpr, .str xrep] 36)], t = 36)
  | _, _ => none
def S_ix1 : Spec
  | [.view 15 n f, .func 69 [.ptr 0 0]], [.cells [.str xo, .str xp, .int .i64 xper, .int .i64 xday, .int .i64 xst, .int .i64 xpr, .str xrep] t] => some (.int .i64 (ixB (fun i => difF ⟨xo, xp, xper, xday, xst, xpr, xrep⟩ (mgOf f i)) n), [(0, .cells [.str xo, .str xp, .int .i64 xper, .int .i64 xday, .int .i64 xst, .int .i64 xpr, .str xrep] 36)], t = 36 ∧ n ≤ 1000000 ∧ f = mgRow (mgOf f))
  | _, _ => none
def S_ixs1 (x : VT) (g : Nat → MG) (n k : Nat) : St := ⟨[(0, .view 15 n (mgRow g)), (1, .func 69 [.ptr 0 0]), (7, .int .i64 n), (8, .int .i64 k)], [(0, .cells [.str x.o, .str x.p, .int .i64 x.per, .int .i64 x.day, .int .i64 x.st, .int .i64 x.pr, .str x.rep] 36)], 1, []⟩
def L_ixs1 (x : VT) (g : Nat → MG) (n : Nat) : LSpec := fun st Q => canonIs te 1 [0, 1, 7, 8] st (S_ixs1 x g n 0) ∧ n ≤ 1000000 ∧
  condP (decide (fstB (fun i => difF x (g i)) n < n)) (Q .ret ⟨[(4, .int .i64 (fstB (fun i => difF x (g i)) n))], [(0, .cells [.str x.o, .str x.p, .int .i64 x.per, .int .i64 x.day, .int .i64 x.st, .int .i64 x.pr, .str x.rep] 36)], 1, []⟩) (Q (.exit 0) ⟨[], [(0, .cells [.str x.o, .str x.p, .int .i64 x.per, .int .i64 x.day, .int .i64 x.st, .int .i64 x.pr, .str x.rep] 36)], 1, []⟩)
def S_rs2 : Spec
  | [.agg [.str dev, .int .i64 seq, .int .i64 kind, .str o, .str p, .int .i64 per, .int .i64 day, .int .i64 st, .int .i64 pr, .str rep, .str o', .str p', .int .i64 per', .str dev', .int .i64 num], .ptr 0 0], [.cells [.str xo, .str xp, .int .i64 xper, .str xdev, .int .i64 xnum] t] => some (.bool (namF ⟨xo, xp, xper, xdev, xnum⟩ ⟨dev, seq, kind, ⟨o, p, per, day, st, pr, rep⟩, ⟨o', p', per', dev', num⟩⟩), [(0, .cells [.str xo, .str xp, .int .i64 xper, .str xdev, .int .i64 xnum] 38)], t = 38)
  | _, _ => none
def S_ix2 : Spec
  | [.view 15 n f, .func 71 [.ptr 0 0]], [.cells [.str xo, .str xp, .int .i64 xper, .str xdev, .int .i64 xnum] t] => some (.int .i64 (ixB (fun i => namF ⟨xo, xp, xper, xdev, xnum⟩ (mgOf f i)) n), [(0, .cells [.str xo, .str xp, .int .i64 xper, .str xdev, .int .i64 xnum] 38)], t = 38 ∧ n ≤ 1000000 ∧ f = mgRow (mgOf f))
  | _, _ => none
def S_ixs2 (x : DT) (g : Nat → MG) (n k : Nat) : St := ⟨[(0, .view 15 n (mgRow g)), (1, .func 71 [.ptr 0 0]), (7, .int .i64 n), (8, .int .i64 k)], [(0, .cells [.str x.o, .str x.p, .int .i64 x.per, .str x.dev, .int .i64 x.num] 38)], 1, []⟩
def L_ixs2 (x : DT) (g : Nat → MG) (n : Nat) : LSpec := fun st Q => canonIs te 1 [0, 1, 7, 8] st (S_ixs2 x g n 0) ∧ n ≤ 1000000 ∧
  condP (decide (fstB (fun i => namF x (g i)) n < n)) (Q .ret ⟨[(4, .int .i64 (fstB (fun i => namF x (g i)) n))], [(0, .cells [.str x.o, .str x.p, .int .i64 x.per, .str x.dev, .int .i64 x.num] 38)], 1, []⟩) (Q (.exit 0) ⟨[], [(0, .cells [.str x.o, .str x.p, .int .i64 x.per, .str x.dev, .int .i64 x.num] 38)], 1, []⟩)
def S_cf1 : Spec
  | [.view 15 n f, .func 69 [.ptr 0 0]], [.cells [.str xo, .str xp, .int .i64 xper, .int .i64 xday, .int .i64 xst, .int .i64 xpr, .str xrep] t] => some (.bool (decide (0 ≤ ixB (fun i => difF ⟨xo, xp, xper, xday, xst, xpr, xrep⟩ (mgOf f i)) n)), [(0, .cells [.str xo, .str xp, .int .i64 xper, .int .i64 xday, .int .i64 xst, .int .i64 xpr, .str xrep] 36)], t = 36 ∧ n ≤ 1000000 ∧ f = mgRow (mgOf f))
  | _, _ => none
end Go.Eng
namespace Go.Eng
def zeroVT : VT := ⟨[], [], 0, 0, 0, 0, []⟩
def decOK (o p : List UInt8) (per q : Int) (m : MG) : Bool := decide (m.kind = 2) && (decide (m.d.o = o) && (decide (m.d.p = p) && (decide (m.d.per = per) && !decide (m.seq < q))))
def dcF (o p : List UInt8) (per : Int) (C : List MG) (g : Nat → MG) : Nat → VT × Int
  | 0 => (zeroVT, -1)
  | k + 1 => bif decOK o p per (dcF o p per C g k).2 (g k) && decide (fstB (fun i => namF (g k).d (atM C i)) C.length < C.length) then ((atM C (fstB (fun i => namF (g k).d (atM C i)) C.length)).v, (g k).seq) else dcF o p per C g k
def resR (o p : List UInt8) (per : Int) (R C : List MG) : VT × Int :=
  bif decide (C.length = 0) then (zeroVT, 0) else bif decide (0 ≤ ixB (fun i => difF (atM C 0).v (atM C i)) C.length) then
    (bif decide ((dcF o p per C (atM R) R.length).2 < 0) then (zeroVT, 2) else ((dcF o p per C (atM R) R.length).1, 1)) else ((atM C 0).v, 1)
def resF (g : Nat → MG) (n : Nat) (o p : List UInt8) (per : Int) : VT × Int := resR o p per (rightL g n) (canL o p per (atM (rightL g n)) (rightL g n).length)
def S_resolve : Spec
  | [.view 15 n f, .str o, .str p, .int .i64 per], [] =>
      some (.tuple [.agg [.str (resF (mgOf f) n o p per).1.o, .str (resF (mgOf f) n o p per).1.p, .int .i64 (resF (mgOf f) n o p per).1.per, .int .i64 (resF (mgOf f) n o p per).1.day, .int .i64 (resF (mgOf f) n o p per).1.st, .int .i64 (resF (mgOf f) n o p per).1.pr, .str (resF (mgOf f) n o p per).1.rep], .int .i64 (resF (mgOf f) n o p per).2], [],
        n ≤ 100000 ∧ f = mgRow (mgOf f) ∧ ∀ i, i < n → (mgOf f i).Sm)
  | _, _ => none
def S_rl (o p : List UInt8) (per : Int) (C R : List MG) (k : Nat) : St := ⟨[(1, .str o), (2, .str p), (3, .int .i64 per), (8, .ptr 0 0), (11, .view 15 C.length (mgRow (atM C))), (13, .ptr 1 0), (14, .int .i64 (dcF o p per C (atM R) k).2), (40, .view 15 R.length (mgRow (atM R))), (41, .int .i64 R.length), (42, .int .i64 k)],
  [(0, .cells [.str [], .str [], .int .i64 0, .int .i64 0, .int .i64 0, .int .i64 0, .str []] 36), (1, .cells [.str (dcF o p per C (atM R) k).1.o, .str (dcF o p per C (atM R) k).1.p, .int .i64 (dcF o p per C (atM R) k).1.per, .int .i64 (dcF o p per C (atM R) k).1.day, .int .i64 (dcF o p per C (atM R) k).1.st, .int .i64 (dcF o p per C (atM R) k).1.pr, .str (dcF o p per C (atM R) k).1.rep] 36)], 2, []⟩
def L_rl (o p : List UInt8) (per : Int) (C R : List MG) : LSpec := fun st Q => canonIs te 0 [1, 2, 3, 8, 11, 13, 14, 40, 41, 42] st (S_rl o p per C R 0) ∧ R.length ≤ 1000000 ∧ C.length ≤ 1000000 ∧
  Q (.exit 0) ⟨[(8, .ptr 0 0), (13, .ptr 1 0), (14, .int .i64 (dcF o p per C (atM R) R.length).2)], [(0, .cells [.str [], .str [], .int .i64 0, .int .i64 0, .int .i64 0, .int .i64 0, .str []] 36),
    (1, .cells [.str (dcF o p per C (atM R) R.length).1.o, .str (dcF o p per C (atM R) R.length).1.p, .int .i64 (dcF o p per C (atM R) R.length).1.per, .int .i64 (dcF o p per C (atM R) R.length).1.day, .int .i64 (dcF o p per C (atM R) R.length).1.st, .int .i64 (dcF o p per C (atM R) R.length).1.pr, .str (dcF o p per C (atM R) R.length).1.rep] 36)], 2, []⟩
end Go.Eng
namespace Go.Proofs
open Go.Shelf
def Tryz.grow153_ren : Go.Shelf.Ren := ⟨fun | 4 => 153 | n => n, fun | 22 => 22 | 25 => 40 | 3 => 3 | 4 => 4 | 9 => 9 | 20 => 20 | 0 => 0 | n => n, fun | n => n⟩
theorem Tryz.grow153 : Go.Proofs.Lays8.n4 Tryz.prog Tryz.grow153_ren := {
  mixed := by kernel_rfl
  f4 := ⟨Tryz.f153.name, by decide, Tryz.func153.trans (congrArg some (by kernel_rfl))⟩
  t0 := Tryz.underlying0
  a0 := Tryz.isAgg0
  z0 := Tryz.sizeOf0
  v0 := Tryz.zeroValue0
  t3 := Tryz.underlying3
  a3 := Tryz.isAgg3
  z3 := Tryz.sizeOf3
  v3 := Tryz.zeroValue3
  t4 := Tryz.underlying4
  a4 := Tryz.isAgg4
  z4 := Tryz.sizeOf4
  v4 := Tryz.zeroValue4
  t9 := Tryz.underlying9
  a9 := Tryz.isAgg9
  z9 := Tryz.sizeOf9
  v9 := Tryz.zeroValue9
  t20 := Tryz.underlying20
  a20 := Tryz.isAgg20
  z20 := Tryz.sizeOf20
  v20 := Tryz.zeroValue20
  t22 := Tryz.underlying22
  a22 := Tryz.isAgg22
  z22 := Tryz.sizeOf22
  v22 := Tryz.zeroValue22 }
end Go.Proofs
namespace Go.Eng
open Go.Proofs Go.RowKit
variable {C : Ctx} [C.Loose]
set_option maxRecDepth 20000
theorem grow_ok (hP : C.P = Tryz.prog) : RSpecOK C 153 R_grow := by
  have _ : C.Loose := inferInstance
  rintro args objs R h
  unfold R_grow at h
  split at h
  · rename_i n
    obtain ⟨h0, hn, hz, hp⟩ := h
    refine ⟨⟨_, hP ▸ Tryz.func153, rfl, by decide⟩, fun E bs w cargs h1 h2 h3 hW h5 h6 h7 => ?_⟩
    obtain ⟨a, b, rfl⟩ : ∃ a b, cargs = [a, b] := by
      match cargs, h6 with
      | [a, b], _ => exact ⟨a, b, rfl⟩
    have V0 := h7 0 _ _ rfl rfl
    have V1 := (h7 1 _ _ rfl rfl).int_iff
    subst V1
    generalize hu : AV.nil = u at V0
    cases V0 <;> cases hu
    have hO : lkL [] = lk [] := by funext i; rfl
    rw [hO] at hW
    obtain ⟨m, rfl⟩ : ∃ m : Nat, n = (m : Int) := ⟨n.toNat, by omega⟩
    rcases Nat.eq_zero_or_pos m with rfl | hm
    · refine Calls.mono (hP ▸ Any8.slices_Grow_room Tryz.grow153 none 0 0 0 w (by omega) (by omega) (by omega) (by omega)) ?_
      rintro e w' ⟨rfl, rfl⟩
      exact ⟨_, .nil, [], bs, rfl, hz rfl, hW, .nil, fun r _ => ⟨rfl, h5 r (Nat.zero_le _)⟩⟩
    · obtain ⟨i, hi, hisz, hib, hiz⟩ := ((prg hP).ok 40 _ rfl).2.1
      have hbytes : i.bytes ≤ 1000 := by rw [hib]; decide
      have hs15 : i.size = 15 := hisz
      have hmul : (0 + m) * i.bytes ≤ 140737488355328 := Nat.le_trans (Nat.mul_le_mul (show 0 + m ≤ 1000000 by omega) hbytes) (by decide)
      have hc := Any8.slices_Grow_grow Tryz.grow153 i _ (hP ▸ hi) hiz (by omega) none 0 0 m [] w (by omega) (by omega) hmul (by omega) (by simp) (fun _ => rfl) (fun a h => by cases h)
      have hcap := grownCap_ge w (0 + m) 0 40
      have hmax := grownCap_le_maxLen w (0 + m) 0 40 (by unfold maxLen; omega)
      have c1 := h5 0 (Nat.zero_le _)
      have key : ∀ vs : Array Value, vs.size = grownCap w (0 + m) 0 40 * 15 → ∃ v u O' bs', (Ending.returned (.slice (some ⟨w.heap.size, 0, none⟩) 0 (grownCap w (0 + m) 0 40))) = .returned v ∧ R u O' ∧ WRep C E (lk O') bs' (w.drew.alloc (.cells vs 40)) ∧ V (w.drew.alloc (.cells vs 40)) (MB E (lk O') bs') bs' v u ∧ ∀ r, 0 + 16 ≤ r → lk O' r = none ∧ bs' r = none := by
        intro vs hvs
        obtain ⟨k1, k2⟩ := new_row hW c1 (w1 := w.drew) rfl rfl ⟨rfl, fun _ => Nat.le_succ _⟩ rfl (vs := vs) (e := 40) (sz := 15) (n := 0) (c := grownCap w (0 + m) 0 40) (f := fun _ => []) (Nat.zero_le _) hmax hvs
          (fun i hi => absurd hi (Nat.not_lt_zero _)) (fun i hi => absurd hi (Nat.not_lt_zero _)) (fun i hi => absurd hi (Nat.not_lt_zero _))
        have e1 : up (lk []) 0 (AObj.row 40 15 0 (fun _ => []) false) = lk [(0, .row 40 15 0 (fun _ => []) false)] := by
          funext r
          rw [lk_cons]
          by_cases h : 0 = r
          · subst h; rw [up_same, if_pos rfl]
          · rw [up_other _ _ _ h, if_neg h]
        rw [e1] at k2
        refine ⟨_, .own 0 0, [(0, .row 40 15 0 (fun _ => []) false)], up bs 0 (.blk w.heap.size (grownCap w (0 + m) 0 40)), rfl, hp (by omega), k2, .own (up_same _ _ _) (Nat.zero_le _) hmax, fun r hr => ?_⟩
        exact ⟨by rw [lk_cons, if_neg (by omega)]; rfl, by rw [up_other _ _ _ (by omega)]; exact h5 r (Nat.zero_le _)⟩
      refine Calls.mono (hP ▸ hc) ?_
      rintro e w' ⟨rfl, rfl⟩
      refine key _ ?_
      generalize hz15 : Value.cells _ = zc
      have hz15 : zc.size = 15 := by rw [← hz15]; rfl
      have hcap : 0 + m ≤ grownCap w (0 + m) 0 40 := hcap
      show (#[] ++ Builtin.zeroCells zc (0 + m - 0) ++ Builtin.zeroCells zc (grownCap w (0 + m) 0 40 - (0 + m))).size = _
      rw [Array.size_append, Array.size_append, size_zeroCells, size_zeroCells, hz15]
      simp only [Array.size_empty]
      omega
  · exact h.elim
end Go.Eng
namespace Go.Eng
open Go.Proofs Go.RowKit
variable {C : Ctx} [C.Loose]
set_option maxRecDepth 20000
theorem nf_cc (nn : Nat → Nat) (gg : Nat → Nat → MG) (c : Nat) (R : AV → List (Nat × AObj) → Prop) : wpFn te [(153, .rel R_grow)] [(3, L_c1 nn gg c), (11, L_c2 nn gg c)] 0 Tryz.f113 [.own 0 c] [.row 22 1 c (slRow nn gg) false] R = (letI z2 := (↑(sumN nn c) : Int); letI z1 := ([(0, .row 22 1 c (slRow nn gg) false), (1, .row 40 15 (sumN nn c) (mgRow (catG nn gg c)) false)] : List (Nat × AObj)); letI z0 := (TEq [(6, .own 1 0), (25, .own 0 c), (26, .int .i64 (↑c : Int)), (27, .int .i64 0)] [(6, .own 1 0), (25, .own 0 c), (26, .int .i64 (↑c : Int)), (27, .int .i64 (↑0 : Int))] ∧ RowsEq [(0, .row 22 1 c (slRow nn gg) false), (1, .row 40 15 0 (fun (_x : Nat) => []) false)] [(0, .row 22 1 c (slRow nn gg) false), (1, .row 40 15 0 (mgRow (catG nn gg 0)) false)]); (TEq [(0, .own 0 c), (3, .int .i64 0), (9, .own 0 c), (10, .int .i64 (↑c : Int)), (11, .int .i64 0)] [(0, .own 0 c), (3, .int .i64 (↑(sumN nn 0) : Int)), (9, .own 0 c), (10, .int .i64 (↑c : Int)), (11, .int .i64 (↑0 : Int))] ∧ RowsEq [(0, .row 22 1 c (slRow nn gg) false)] [(0, .row 22 1 c (slRow nn gg) false)]) ∧ c ≤ 1000 ∧ sumN nn c ≤ 1000000 ∧ (0 : Int) ≤ z2 ∧ z2 ≤ (1000000 : Int) ∧ (z2 = (0 : Int) → z0 ∧ c ≤ 1000 ∧ sumN nn c ≤ 1000000 ∧ (∀ (i : Nat), i < c → true = true) ∧ (∀ (i : Nat), i < sumN nn c → true = true) ∧ ∃ (O' : List (Nat × AObj)), RowsEq z1 O' ∧ R (.own 1 (sumN nn c)) O') ∧ ((0 : Int) < z2 → (∀ (i : Nat), i < 0 → true = true) ∧ z0 ∧ c ≤ 1000 ∧ sumN nn c ≤ 1000000 ∧ (∀ (i : Nat), i < c → true = true) ∧ (∀ (i : Nat), i < sumN nn c → true = true) ∧ ∃ (O' : List (Nat × AObj)), RowsEq z1 O' ∧ R (.own 1 (sumN nn c)) O')) := by kernel_rfl
theorem nf_c1_round (nn : Nat → Nat) (gg : Nat → Nat → MG) (c k : Nat) (P : Nat → Prop) (R : Exit → St → Prop) : roundP ⟨te, [], [], 1, 36, 0⟩ (loopB Tryz.f113 3) [0, 3, 9, 10, 11] [0, 3] [] (S_c1 nn gg c) P R (S_c1 nn gg c k) = (letI z2 := (↑(sumN nn k) : Int); letI z1 := ([(0, .row 22 1 c (slRow nn gg) false)] : List (Nat × AObj)); letI z0 := (↑(nn (Int.toNat (↑k : Int))) : Int); condP (decide ((↑k : Int) < (↑c : Int))) (((0 : Int) ≤ (↑k : Int) ∧ (↑k : Int) < (↑c : Int)) ∧ (Int.toNat (↑k : Int) < c ∧ 1 = 1) ∧ inR .i64 (z2 + z0) ∧ condP (decide (z2 + z0 < (0 : Int))) False (inR .i64 ((↑k : Int) + (1 : Int)) ∧ ∃ (i' : Nat), (TEq [(0, .own 0 c), (3, .int .i64 (z2 + z0)), (9, .own 0 c), (10, .int .i64 (↑c : Int)), (11, .int .i64 ((↑k : Int) + (1 : Int)))] [(0, .own 0 c), (3, .int .i64 (↑(sumN nn i') : Int)), (9, .own 0 c), (10, .int .i64 (↑c : Int)), (11, .int .i64 (↑i' : Int))] ∧ RowsEq z1 z1) ∧ P i')) ((∀ (i : Nat), i < c → true = true) ∧ ∃ (O' : List (Nat × AObj)), RowsEq z1 O' ∧ R (.exit 0) (St.mk [(0, .own 0 c), (3, .int .i64 z2)] O' 1 []))) := by kernel_rfl
def shrtE0 : TI := (TI.mk (TypeDesc.struct #[Field.mk "Device" (9 : TypeId) 0 false "" "" 0, Field.mk "Sequence" (3 : TypeId) 1 false "" "" 16, Field.mk "Kind" (3 : TypeId) 2 false "" "" 24, Field.mk "Visit" (36 : TypeId) 3 false "" "" 32, Field.mk "Decision" (38 : TypeId) 10 false "" "" 112]) 15 176 (Value.agg #[Value.string (ByteArray.mk #[]), Value.int IntKind.i64 0, Value.int IntKind.i64 0, Value.string (ByteArray.mk #[]), Value.string (ByteArray.mk #[]), Value.int IntKind.i64 0, Value.int IntKind.i64 0, Value.int IntKind.i64 0, Value.int IntKind.i64 0, Value.string (ByteArray.mk #[]), Value.string (ByteArray.mk #[]), Value.string (ByteArray.mk #[]), Value.int IntKind.i64 0, Value.string (ByteArray.mk #[]), Value.int IntKind.i64 0]) true)
theorem nf_c2_round (nn : Nat → Nat) (gg : Nat → Nat → MG) (c k : Nat) (P : Nat → Prop) (R : Exit → St → Prop) : roundP ⟨te, [], [], 1, 36, 0⟩ (loopB Tryz.f113 11) [6, 25, 26, 27] [6] [] (S_c2 nn gg c) P R (S_c2 nn gg c k) = (letI z0 := (Int.toNat (↑k : Int)); condP (decide ((↑k : Int) < (↑c : Int))) (((0 : Int) ≤ (↑k : Int) ∧ (↑k : Int) < (↑c : Int)) ∧ (Int.toNat (↑k : Int) < c ∧ 1 = 1) ∧ (15 = 15 ∧ sumN nn k ≤ sumN nn k ∧ 15 = 15 ∧ 40 = 40 ∧ 15 = 15 ∧ sumN nn k + nn z0 ≤ 9223372036854775807 ∧ (sumN nn k + nn z0) * TI.bytes shrtE0 ≤ 140737488355328) ∧ inR .i64 ((↑k : Int) + (1 : Int)) ∧ ∃ (i' : Nat), (TEq [(6, .own 1 (sumN nn k + nn z0)), (25, .own 0 c), (26, .int .i64 (↑c : Int)), (27, .int .i64 ((↑k : Int) + (1 : Int)))] [(6, .own 1 (sumN nn i')), (25, .own 0 c), (26, .int .i64 (↑c : Int)), (27, .int .i64 (↑i' : Int))] ∧ RowsEq [(0, .row 22 1 c (slRow nn gg) false), (1, .row 40 15 (sumN nn k + nn z0) (apF (sumN nn k) (mgRow (catG nn gg k)) (mgRow (gg z0))) false)] [(0, .row 22 1 c (slRow nn gg) false), (1, .row 40 15 (sumN nn i') (mgRow (catG nn gg i')) false)]) ∧ P i') ((∀ (i : Nat), i < c → true = true) ∧ (∀ (i : Nat), i < sumN nn k → true = true) ∧ ∃ (O' : List (Nat × AObj)), RowsEq [(0, .row 22 1 c (slRow nn gg) false), (1, .row 40 15 (sumN nn k) (mgRow (catG nn gg k)) false)] O' ∧ R (.exit 2) (St.mk [(6, .own 1 (sumN nn k))] O' 2 []))) := by kernel_rfl
theorem sumN_le (nn : Nat → Nat) : ∀ {k c : Nat}, k ≤ c → sumN nn k ≤ sumN nn c
  | k, 0, h => by obtain rfl : k = 0 := by omega
                  exact Nat.le_refl _
  | k, c + 1, h => by
    by_cases e : k = c + 1
    · rw [e]; exact Nat.le_refl _
    · have := sumN_le nn (show k ≤ c by omega)
      rw [sumN]; omega
theorem c1_loop (hP : C.P = Tryz.prog) (nn : Nat → Nat) (gg : Nat → Nat → MG) (c : Nat) : LoopOK C 1 36 (loopC Tryz.f113 3) (L_c1 nn gg c) := by
  have _ : C.Loose := inferInstance
  rintro st Q ⟨h0, hc, hs, hQ⟩
  refine LoopOK.mk (prg hP) [] 0 .nil [0, 3, 9, 10, 11] [0, 3] [] (S_c1 nn gg c) (fun k => k ≤ c) (fun k => c - k) 0 (Nat.zero_le _) h0 (fun k hk => ?_) (fun i => ⟨fun _ _ => rfl, trivial⟩)
  rw [nf_c1_round, Int.toNat_natCast]
  refine condP_dec (fun h1 => ?_) (fun h1 => ?_)
  · have hle := sumN_le nn (show k + 1 ≤ c by omega)
    rw [sumN] at hle
    refine ⟨⟨by omega, by omega⟩, ⟨by omega, rfl⟩, by simp only [inR]; omega, condP_dec (fun q => ?_) (fun _ => ⟨by simp only [inR]; omega, k + 1, ⟨?_, ⟨rfl, rfl, rfl, rfl, rfl, fun _ _ => rfl⟩, trivial⟩, by omega, by omega⟩)⟩
    · exfalso; omega
    · rfl
  · have : k = c := by omega
    subst this
    exact ⟨fun _ _ => rfl, _, rowsEqR _, hQ⟩
theorem c2_loop (hP : C.P = Tryz.prog) (nn : Nat → Nat) (gg : Nat → Nat → MG) (c : Nat) : LoopOK C 1 36 (loopC Tryz.f113 11) (L_c2 nn gg c) := by
  have _ : C.Loose := inferInstance
  rintro st Q ⟨h0, hc, hs, hQ⟩
  refine AWP.ownNil 6 40 15 ?_
  refine LoopOK.mk (prg hP) [] 0 .nil [6, 25, 26, 27] [6] [] (S_c2 nn gg c) (fun k => k ≤ c) (fun k => c - k) 0 (Nat.zero_le _) h0 (fun k hk => ?_) (fun i => ⟨fun _ _ => rfl, fun _ _ => rfl, trivial⟩)
  rw [nf_c2_round, Int.toNat_natCast]
  refine condP_dec (fun h1 => ?_) (fun h1 => ?_)
  · have hle := sumN_le nn (show k + 1 ≤ c by omega)
    rw [sumN] at hle
    refine ⟨⟨by omega, by omega⟩, ⟨by omega, rfl⟩, ⟨rfl, Nat.le_refl _, rfl, rfl, rfl, by omega, ?_⟩, by simp only [inR]; omega, k + 1, ⟨rfl, ⟨rfl, rfl, rfl, rfl, rfl, fun _ _ => rfl⟩, ⟨rfl, rfl, rfl, rfl, rfl, fun j hj => ?_⟩, trivial⟩, by omega, by omega⟩
    · show (sumN nn k + nn k) * 176 ≤ _
      omega
    · show apF (sumN nn k) (mgRow (catG nn gg k)) (mgRow (gg k)) j = mgRow (catG nn gg (k + 1)) j
      unfold apF mgRow
      rw [catG]
      by_cases h : j < sumN nn k
      · simp only [h, if_true]
      · simp only [h, if_false]
  · have : k = c := by omega
    subst this
    exact ⟨fun _ _ => rfl, fun _ _ => rfl, _, rowsEqR _, hQ⟩
theorem concat_ok (hP : C.P = Tryz.prog) : RSpecOK C 113 R_concat := by
  rintro args objs R h
  unfold R_concat at h
  split at h
  · rename_i c t c' f fr
    obtain ⟨nn, gg, rfl, rfl, rfl, hc, hf, hs, hR⟩ := h
    refine ACalls.rowEq 0 (f' := slRow nn gg) rfl hf (ACalls.frzO 1 ?_)
    show ACalls C _ [.own 0 c] [.row 22 1 c (slRow nn gg) false] _
    refine RSpecOK.wpL (prg hP) [(153, .rel R_grow)] [(3, L_c1 nn gg c), (11, L_c2 nn gg c)] 0 (.cons (grow_ok hP) .nil) (hP ▸ Tryz.func113) rfl rfl rfl [(loopC Tryz.f113 3, L_c1 nn gg c), (loopC Tryz.f113 11, L_c2 nn gg c)] (by kernel_rfl) ⟨c1_loop hP nn gg c, c2_loop hP nn gg c, trivial⟩ ?_
    rw [nf_cc]
    have fin : (∀ (i : Nat), i < c → true = true) ∧ (∀ (i : Nat), i < sumN nn c → true = true) ∧ ∃ (O' : List (Nat × AObj)), RowsEq [(0, .row 22 1 c (slRow nn gg) false), (1, .row 40 15 (sumN nn c) (mgRow (catG nn gg c)) false)] O' ∧ frzO 1 R (.own 1 (sumN nn c)) O' := by
      refine ⟨fun _ _ => rfl, fun _ _ => rfl, _, rowsEqR _, fun _ _ => rfl, ?_⟩
      have hb : Nat.ble (sumN nn c) (sumN nn c) = true := Nat.ble_eq_true_of_le (Nat.le_refl _)
      have e : frzC 1 15 (sumN nn c) (mgRow (catG nn gg c)) (.own 1 (sumN nn c)) = .view 15 (sumN nn c) (mgRow (catG nn gg c)) := by simp [frzC, frzA, frz, hb]
      rw [e]
      exact hR
    have start : TEq [(6, .own 1 0), (25, .own 0 c), (26, .int .i64 (c : Int)), (27, .int .i64 0)] [(6, .own 1 0), (25, .own 0 c), (26, .int .i64 (c : Int)), (27, .int .i64 ((0 : Nat) : Int))] ∧ RowsEq [(0, .row 22 1 c (slRow nn gg) false), (1, .row 40 15 0 (fun _ => []) false)] [(0, .row 22 1 c (slRow nn gg) false), (1, .row 40 15 0 (mgRow (catG nn gg 0)) false)] :=
      ⟨rfl, ⟨rfl, rfl, rfl, rfl, rfl, fun _ _ => rfl⟩, ⟨rfl, rfl, rfl, rfl, rfl, fun i hi => absurd hi (Nat.not_lt_zero i)⟩, trivial⟩
    exact ⟨⟨rfl, ⟨rfl, rfl, rfl, rfl, rfl, fun _ _ => rfl⟩, trivial⟩, hc, hs, by omega, by omega, fun _ => ⟨start, hc, hs, fin⟩, fun _ => ⟨fun _ _ => rfl, start, hc, hs, fin⟩⟩
  · exact h.elim
end Go.Eng
namespace Go.Eng
theorem LoopOK.mkI {C : Ctx} {te : TE} (hte : Prg C te) {m N : Nat} {x : Code} {s : St} {Q : Exit → St → Prop} (calls : List (Nat × CSpec)) {ι : Type} (loops : ι → List (Nat × LSpec)) (fuel : Nat) (hc : CallsOK C calls) (ls : ι → List (Code × LSpec)) (hls : ∀ i, loopsOf (loops i) x = ls i) (hL : ∀ i, LoopsOK C m N (ls i))
    (F Fe Fr : List Nat) (S : ι → St) (I : ι → Prop) (μ : ι → Nat) (i0 : ι) (hI : I i0)
    (h0 : canonIs te m F s (S i0)) (round : ∀ i, I i → roundP ⟨te, calls, loops i, m, N, fuel⟩ x F Fe Fr S (fun i' => I i' ∧ μ i' < μ i) Q (S i)) (hS : ∀ i, rowVC (S i).O True := by intro i; trivial) : AWP C m N (.loop x) Q s := by
  obtain ⟨ρ0, hw⟩ := canonIs_weak h0 (rowVC_elim (hS i0)).1
  have key : AWP C m N (.loop x) (Eng.canQ te m Fe Fr Q) s := by
    refine AWP.loop S I μ i0 hI hw fun i hi => ?_
    have hG : EnvOK C ⟨te, calls, loops i, m, N, fuel⟩ := ⟨hte.ok, hte.one, hc⟩
    refine (wpC_ok hG x _ _ (by rw [hls i]; exact (hL i).all) (round i hi)).mono fun e s hq => thenA_mono (fun s hs => ?_) e s hq
    obtain ⟨i', h3, h1, h2⟩ := hs
    obtain ⟨ρ, hw'⟩ := canonIs_weak h3 (rowVC_elim (hS i')).1
    exact ⟨i', ρ, h1, h2, hw'⟩
  exact key.canQ
end Go.Eng
namespace Go.Eng
theorem insRow {α : Type} [Inhabited α] (enc : α → List AV) (L : List α) (x : α) (p : Nat) (hp : p ≤ L.length) (e0 ch : Nat → List AV) (hch : ch 0 = enc x) (j : Nat) (hj : j < 0 + p + 1 + (L.length - p)) :
    apF (0 + p + 1) (apF (0 + p) (apF 0 e0 (fun i => enc (L.getD i default))) ch) (fun i => enc (L.getD (p + i) default)) j = enc ((L.take p ++ x :: L.drop p).getD j default) := by
  unfold apF
  have hlt : (L.take p).length = p := by simp [hp]
  by_cases h1 : j < p
  · rw [if_pos (by omega), if_pos (by omega), if_neg (by omega)]
    show enc _ = enc _
    congr 1
    rw [List.getD_eq_getElem?_getD, List.getD_eq_getElem?_getD, List.getElem?_append_left (by omega), List.getElem?_take, if_pos h1]
    rfl
  · by_cases h2 : j = p
    · subst h2
      rw [if_pos (by omega), if_neg (by omega), Nat.zero_add, Nat.sub_self, hch]
      show enc _ = enc _
      congr 1
      rw [List.getD_eq_getElem?_getD, List.getElem?_append_right (by omega), hlt, Nat.sub_self]
      rfl
    · rw [if_neg (by omega)]
      show enc _ = enc _
      congr 1
      rw [List.getD_eq_getElem?_getD, List.getD_eq_getElem?_getD, List.getElem?_append_right (by omega), hlt]
      obtain ⟨q, rfl⟩ : ∃ q, j = p + 1 + q := ⟨j - (p + 1), by omega⟩
      rw [show p + 1 + q - p = q + 1 by omega, List.getElem?_cons_succ, List.getElem?_drop, show p + 1 + q - (0 + p + 1) = q by omega]
theorem putRowL {α : Type} [Inhabited α] (enc : α → List AV) (L : List α) (x : α) (ch : Nat → List AV) (hch : ch 0 = enc x) (j : Nat) (hj : j < L.length + 1) :
    apF L.length (fun i => enc (L.getD i default)) ch j = enc ((L ++ [x]).getD j default) := by
  unfold apF
  by_cases h1 : j < L.length
  · rw [if_pos h1]
    show enc _ = enc _
    congr 1
    rw [List.getD_eq_getElem?_getD, List.getD_eq_getElem?_getD, List.getElem?_append_left h1]
  · have : j = L.length := by omega
    subst this
    rw [if_neg h1, Nat.sub_self, hch]
    show enc _ = enc _
    congr 1
    simp
end Go.Eng
namespace Go.Eng
open Go.Proofs Go.RowKit
variable {C : Ctx} [C.Loose]
set_option maxRecDepth 20000
theorem nf_cp (g : Nat → MG) (n : Nat) (R : AV → List (Nat × AObj) → Prop) : wpFn te [] [(4, L_cp g n)] 0 Tryz.f116 [.own 0 n] [.row 40 15 n (mgRow g) false] R = (letI z0 := ([(0, .row 40 15 n (mgRow g) false)] : List (Nat × AObj)); condP (decide ((↑n : Int) < (2 : Int))) ((∀ (i : Nat), i < n → true = true) ∧ ∃ (O' : List (Nat × AObj)), RowsEq z0 O' ∧ R (.own 0 n) O') ((TEq [(0, .own 0 n), (3, .int .i64 1)] [(0, .own 0 n), (3, .int .i64 (↑1 : Int))] ∧ RowsEq z0 z0) ∧ 2 ≤ n ∧ n ≤ 1000000 ∧ (allK g n = true → (∀ (i : Nat), i < n → true = true) ∧ ∃ (O' : List (Nat × AObj)), RowsEq z0 O' ∧ R (.own 0 n) O') ∧ ∀ (w : Nat) (h : Nat → MG), lst h w = ddL g n → (∀ (i : Nat), i < w → true = true) ∧ ∃ (O' : List (Nat × AObj)), RowsEq [(0, .row 40 15 w (mgRow h) false)] O' ∧ R (.own 0 w) O')) := by kernel_rfl
theorem nf_cp_round (g : Nat → MG) (n k : Nat) (P : Nat → Prop) (R : Exit → St → Prop) : roundP ⟨te, [], [(9, L_ci g n k)], 1, 61, 0⟩ (loopB Tryz.f116 4) [0, 3] [0] [2] (S_cp g n) P R (S_cp g n k) = (letI z2 := ([(0, .row 40 15 n (mgRow g) false)] : List (Nat × AObj)); letI z1 := (g (Int.toNat (↑k : Int))); letI z0 := (g (Int.toNat ((↑k : Int) - (1 : Int)))); condP (decide ((↑k : Int) < (↑n : Int))) (((0 : Int) ≤ (↑k : Int) ∧ (↑k : Int) < (↑n : Int)) ∧ (Int.toNat (↑k : Int) < n ∧ 15 = 15) ∧ inR .i64 ((↑k : Int) - (1 : Int)) ∧ ((0 : Int) ≤ (↑k : Int) - (1 : Int) ∧ (↑k : Int) - (1 : Int) < (↑n : Int)) ∧ (Int.toNat ((↑k : Int) - (1 : Int)) < n ∧ 15 = 15) ∧ condP (decide (MG.dev z1 = MG.dev z0) && (decide (MG.seq z1 = MG.seq z0) && (decide (MG.kind z1 = MG.kind z0) && (decide (VT.o (MG.v z1) = VT.o (MG.v z0)) && (decide (VT.p (MG.v z1) = VT.p (MG.v z0)) && (decide (VT.per (MG.v z1) = VT.per (MG.v z0)) && (decide (VT.day (MG.v z1) = VT.day (MG.v z0)) && (decide (VT.st (MG.v z1) = VT.st (MG.v z0)) && (decide (VT.pr (MG.v z1) = VT.pr (MG.v z0)) && decide (VT.rep (MG.v z1) = VT.rep (MG.v z0))))))) && (decide (DT.o (MG.d z1) = DT.o (MG.d z0)) && (decide (DT.p (MG.d z1) = DT.p (MG.d z0)) && (decide (DT.per (MG.d z1) = DT.per (MG.d z0)) && (decide (DT.dev (MG.d z1) = DT.dev (MG.d z0)) && decide (DT.num (MG.d z1) = DT.num (MG.d z0)))))))))) (((0 : Int) ≤ (↑k : Int) ∧ (↑k : Int) ≤ (↑n : Int)) ∧ (TEq [(0, .own 0 n), (3, .int .i64 (↑k : Int)), (4, .sub 0 15 (Int.toNat (↑k : Int)) (n - Int.toNat (↑k : Int))), (5, .int .i64 1)] [(0, .own 0 n), (3, .int .i64 (↑(CI.w (CI.mk 1 k g)) : Int)), (4, .sub 0 15 k (n - k)), (5, .int .i64 (↑(CI.k (CI.mk 1 k g)) : Int))] ∧ RowsEq z2 [(0, .row 40 15 n (mgRow (CI.h (CI.mk 1 k g))) false)]) ∧ (1 ≤ k ∧ k < n ∧ n ≤ 1000000) ∧ allK g k = true ∧ keepF g k = false ∧ ∀ (w : Nat) (h : Nat → MG), w ≤ n → lst h w = ddL g n → ((0 : Int) ≤ (↑w : Int) ∧ (↑w : Int) ≤ (↑n : Int)) ∧ Int.toNat (↑w : Int) ≤ n ∧ ((0 : Int) ≤ (↑w : Int) ∧ (↑w : Int) ≤ (↑n : Int)) ∧ (∀ (i : Nat), i < Int.toNat (↑w : Int) → true = true) ∧ ∃ (O' : List (Nat × AObj)), RowsEq [(0, .row 40 15 (Int.toNat (↑w : Int)) (mgRow h) false)] O' ∧ R .ret (St.mk [(2, .own 0 (Int.toNat (↑w : Int)))] O' 1 [])) (inR .i64 ((↑k : Int) + (1 : Int)) ∧ ∃ (i' : Nat), (TEq [(0, .own 0 n), (3, .int .i64 ((↑k : Int) + (1 : Int)))] [(0, .own 0 n), (3, .int .i64 (↑i' : Int))] ∧ RowsEq z2 z2) ∧ P i')) ((∀ (i : Nat), i < n → true = true) ∧ ∃ (O' : List (Nat × AObj)), RowsEq z2 O' ∧ R (.exit 0) (St.mk [(0, .own 0 n)] O' 1 []))) := by kernel_rfl
theorem nf_ci_round (g : Nat → MG) (n k0 : Nat) (i : CI) (P : CI → Prop) (R : Exit → St → Prop) : roundP ⟨te, [], [], 1, 61, 0⟩ (loopB Tryz.f116 9) [0, 3, 4, 5] [0, 3] [] (S_ci g n k0) P R (S_ci g n k0 i) = (letI z3 := ([(0, .row 40 15 n (mgRow (CI.h i)) false)] : List (Nat × AObj)); letI z2 := (k0 + Int.toNat (↑(CI.k i) : Int) < n ∧ 15 = 15); letI z1 := (CI.h i (k0 + Int.toNat ((↑(CI.k i) : Int) - (1 : Int)))); letI z0 := (CI.h i (k0 + Int.toNat (↑(CI.k i) : Int))); condP (decide ((↑(CI.k i) : Int) < (↑(n - k0) : Int))) (((0 : Int) ≤ (↑(CI.k i) : Int) ∧ (↑(CI.k i) : Int) < (↑(n - k0) : Int) ∧ 15 = 15) ∧ z2 ∧ inR .i64 ((↑(CI.k i) : Int) - (1 : Int)) ∧ ((0 : Int) ≤ (↑(CI.k i) : Int) - (1 : Int) ∧ (↑(CI.k i) : Int) - (1 : Int) < (↑(n - k0) : Int) ∧ 15 = 15) ∧ (k0 + Int.toNat ((↑(CI.k i) : Int) - (1 : Int)) < n ∧ 15 = 15) ∧ condP (!(decide (MG.dev z0 = MG.dev z1) && (decide (MG.seq z0 = MG.seq z1) && (decide (MG.kind z0 = MG.kind z1) && (decide (VT.o (MG.v z0) = VT.o (MG.v z1)) && (decide (VT.p (MG.v z0) = VT.p (MG.v z1)) && (decide (VT.per (MG.v z0) = VT.per (MG.v z1)) && (decide (VT.day (MG.v z0) = VT.day (MG.v z1)) && (decide (VT.st (MG.v z0) = VT.st (MG.v z1)) && (decide (VT.pr (MG.v z0) = VT.pr (MG.v z1)) && decide (VT.rep (MG.v z0) = VT.rep (MG.v z1))))))) && (decide (DT.o (MG.d z0) = DT.o (MG.d z1)) && (decide (DT.p (MG.d z0) = DT.p (MG.d z1)) && (decide (DT.per (MG.d z0) = DT.per (MG.d z1)) && (decide (DT.dev (MG.d z0) = DT.dev (MG.d z1)) && decide (DT.num (MG.d z0) = DT.num (MG.d z1))))))))))) (((0 : Int) ≤ (↑(CI.k i) : Int) ∧ (↑(CI.k i) : Int) < (↑(n - k0) : Int) ∧ 15 = 15) ∧ z2 ∧ ((0 : Int) ≤ (↑(CI.w i) : Int) ∧ (↑(CI.w i) : Int) < (↑n : Int)) ∧ (List.length [AV.str (MG.dev z0), .int .i64 (MG.seq z0), .int .i64 (MG.kind z0), .str (VT.o (MG.v z0)), .str (VT.p (MG.v z0)), .int .i64 (VT.per (MG.v z0)), .int .i64 (VT.day (MG.v z0)), .int .i64 (VT.st (MG.v z0)), .int .i64 (VT.pr (MG.v z0)), .str (VT.rep (MG.v z0)), .str (DT.o (MG.d z0)), .str (DT.p (MG.d z0)), .int .i64 (DT.per (MG.d z0)), .str (DT.dev (MG.d z0)), .int .i64 (DT.num (MG.d z0))] = 15 ∧ Int.toNat (↑(CI.w i) : Int) < n ∧ 15 = 15) ∧ inR .i64 ((↑(CI.w i) : Int) + (1 : Int)) ∧ inR .i64 ((↑(CI.k i) : Int) + (1 : Int)) ∧ ∃ (i' : CI), (TEq [(0, .own 0 n), (3, .int .i64 ((↑(CI.w i) : Int) + (1 : Int))), (4, .sub 0 15 k0 (n - k0)), (5, .int .i64 ((↑(CI.k i) : Int) + (1 : Int)))] [(0, .own 0 n), (3, .int .i64 (↑(CI.w i') : Int)), (4, .sub 0 15 k0 (n - k0)), (5, .int .i64 (↑(CI.k i') : Int))] ∧ RowsEq [(0, .row 40 15 n (fun (k : Nat) => if k = Int.toNat (↑(CI.w i) : Int) then [.str (MG.dev z0), .int .i64 (MG.seq z0), .int .i64 (MG.kind z0), .str (VT.o (MG.v z0)), .str (VT.p (MG.v z0)), .int .i64 (VT.per (MG.v z0)), .int .i64 (VT.day (MG.v z0)), .int .i64 (VT.st (MG.v z0)), .int .i64 (VT.pr (MG.v z0)), .str (VT.rep (MG.v z0)), .str (DT.o (MG.d z0)), .str (DT.p (MG.d z0)), .int .i64 (DT.per (MG.d z0)), .str (DT.dev (MG.d z0)), .int .i64 (DT.num (MG.d z0))] else mgRow (CI.h i) k) false)] [(0, .row 40 15 n (mgRow (CI.h i')) false)]) ∧ P i') (inR .i64 ((↑(CI.k i) : Int) + (1 : Int)) ∧ ∃ (i' : CI), (TEq [(0, .own 0 n), (3, .int .i64 (↑(CI.w i) : Int)), (4, .sub 0 15 k0 (n - k0)), (5, .int .i64 ((↑(CI.k i) : Int) + (1 : Int)))] [(0, .own 0 n), (3, .int .i64 (↑(CI.w i') : Int)), (4, .sub 0 15 k0 (n - k0)), (5, .int .i64 (↑(CI.k i') : Int))] ∧ RowsEq z3 [(0, .row 40 15 n (mgRow (CI.h i')) false)]) ∧ P i')) ((∀ (i : Nat), i < n → true = true) ∧ ∃ (O' : List (Nat × AObj)), RowsEq z3 O' ∧ R (.exit 2) (St.mk [(0, .own 0 n), (3, .int .i64 (↑(CI.w i) : Int))] O' 1 []))) := by kernel_rfl
theorem lst_snocM (g : Nat → MG) (n : Nat) : lst g (n + 1) = lst g n ++ [g n] := by simp [lst, List.range_succ]
theorem eqM_iff {a b : MG} : eqM a b = true ↔ a = b := by
  unfold eqM
  simp only [Bool.and_eq_true, decide_eq_true_eq]
  constructor
  · rintro ⟨h1, h2, h3, ⟨h4, h5, h6, h7, h8, h9, h10⟩, h11, h12, h13, h14, h15⟩
    obtain ⟨dev, seq, kind, ⟨o, p, per, day, st, pr, rep⟩, ⟨o', p', per', dev', num⟩⟩ := a
    obtain ⟨_, _, _, ⟨_, _, _, _, _, _, _⟩, ⟨_, _, _, _, _⟩⟩ := b
    simp_all
  · rintro rfl
    simp
theorem ddL_succ (g : Nat → MG) (m : Nat) : ddL g (m + 1) = ddL g m ++ bif keepF g m then [g m] else [] := by
  unfold ddL
  rw [List.range_succ, List.filter_append, List.map_append]
  cases h : keepF g m <;> simp [h]
theorem allK_lst (g : Nat → MG) : ∀ {k : Nat}, allK g k = true → ddL g k = lst g k
  | 0, _ => rfl
  | k + 1, h => by
    rw [allK, Bool.and_eq_true] at h
    rw [ddL_succ, allK_lst g h.1, h.2, lst_snocM]; rfl
theorem keepF_pos {g : Nat → MG} {k : Nat} (h : 0 < k) : keepF g k = !eqM (g k) (g (k - 1)) := by
  unfold keepF
  rw [decide_eq_false (by omega)]; rfl
theorem ci_loop (hP : C.P = Tryz.prog) (g : Nat → MG) (n k0 : Nat) : LoopOK C 1 61 (loopC Tryz.f116 9) (L_ci g n k0) := by
  have _ : C.Loose := inferInstance
  rintro st Q ⟨h0, ⟨hk0, hk1, hn⟩, hall, hkeep, hQ⟩
  refine LoopOK.mk (prg hP) [] 0 .nil [0, 3, 4, 5] [0, 3] [] (S_ci g n k0) (fun i => 1 ≤ i.k ∧ i.k ≤ n - k0 ∧ i.w < k0 + i.k ∧ lst i.h i.w = ddL g (k0 + i.k) ∧ ∀ j, i.w ≤ j → i.h j = g j) (fun i => n - k0 - i.k) ⟨1, k0, g⟩
    ⟨Nat.le_refl _, by show 1 ≤ n - k0; omega, Nat.lt_succ_self _, ?_, fun _ _ => rfl⟩ h0 (fun i hi => ?_) (fun i => ⟨fun _ _ => rfl, trivial⟩)
  · show lst g k0 = ddL g (k0 + 1)
    rw [ddL_succ, hkeep, allK_lst g hall]; simp
  obtain ⟨i1, i2, i3, i4, i5⟩ := hi
  obtain ⟨k, w, h⟩ := i
  dsimp only at i1 i2 i3 i4 i5
  rw [nf_ci_round]
  dsimp only
  rw [Int.toNat_natCast, Int.toNat_natCast]
  have e1 : ((k : Int) - 1).toNat = k - 1 := by omega
  rw [e1]
  refine condP_dec (fun h1 => ?_) (fun h1 => ?_)
  · have hk : k < n - k0 := by omega
    have r1 : h (k0 + k) = g (k0 + k) := i5 _ (by omega)
    have r2 : h (k0 + (k - 1)) = g (k0 + (k - 1)) := i5 _ (by omega)
    have hkp : keepF g (k0 + k) = !eqM (g (k0 + k)) (g (k0 + (k - 1))) := by
      rw [keepF_pos (by omega)]
      have : k0 + k - 1 = k0 + (k - 1) := by omega
      rw [this]
    have hkp : keepF g (k0 + k) = !eqM (h (k0 + k)) (h (k0 + (k - 1))) := by rw [r1, r2]; exact hkp
    refine ⟨⟨by omega, by omega, rfl⟩, ⟨by omega, rfl⟩, by simp only [inR]; omega, ⟨by omega, by omega, rfl⟩, ⟨by omega, rfl⟩, condP_intro (fun q => ?_) (fun q => ?_)⟩
    · have q : keepF g (k0 + k) = true := hkp.trans q
      refine ⟨⟨by omega, by omega, rfl⟩, ⟨by omega, rfl⟩, ⟨by omega, by omega⟩, ⟨rfl, by omega, rfl⟩, by simp only [inR]; omega, by simp only [inR]; omega, ⟨k + 1, w + 1, fun j => if j = w then h (k0 + k) else h j⟩, ⟨rfl, ⟨rfl, rfl, rfl, rfl, rfl, fun j hj => ?_⟩, trivial⟩, ⟨Nat.le_add_left _ _, hk, ?_, ?_, fun j hj => ?_⟩, ?_⟩
      · unfold mgRow
        by_cases e : j = w
        · simp only [e, if_true]
        · simp only [e, if_false]
      · show w + 1 < k0 + (k + 1)
        omega
      · show lst (fun j => if j = w then h (k0 + k) else h j) (w + 1) = ddL g (k0 + k + 1)
        have e : lst (fun j => if j = w then h (k0 + k) else h j) w = lst h w := List.map_congr_left fun j hj => by
          have := List.mem_range.1 hj
          rw [if_neg (by omega)]
        rw [lst_snocM, ddL_succ, q, e, i4, if_pos rfl, r1]; rfl
      · have hj : w + 1 ≤ j := hj
        show (if j = w then h (k0 + k) else h j) = g j
        rw [if_neg (by omega)]
        exact i5 j (by omega)
      · show n - k0 - (k + 1) < n - k0 - k
        omega
    · have q : keepF g (k0 + k) = false := hkp.trans q
      refine ⟨by simp only [inR]; omega, ⟨k + 1, w, h⟩, ⟨rfl, ⟨rfl, rfl, rfl, rfl, rfl, fun _ _ => rfl⟩, trivial⟩, ⟨Nat.le_add_left _ _, hk, ?_, ?_, i5⟩, ?_⟩
      · show w < k0 + (k + 1)
        omega
      · show lst h w = ddL g (k0 + k + 1)
        rw [ddL_succ, q, i4]; simp
      · show n - k0 - (k + 1) < n - k0 - k
        omega
  · have : k = n - k0 := by omega
    subst this
    have e : k0 + (n - k0) = n := by omega
    rw [e] at i4
    exact ⟨fun _ _ => rfl, _, rowsEqR _, hQ w h (by omega) i4⟩
theorem cp_loop (hP : C.P = Tryz.prog) (g : Nat → MG) (n : Nat) : LoopOK C 1 61 (loopC Tryz.f116 4) (L_cp g n) := by
  rintro st Q ⟨h0, hn2, hn, hQ, hR⟩
  refine LoopOK.mkI (prg hP) [] (fun k => [(9, L_ci g n k)]) 0 .nil (fun k => [(loopC Tryz.f116 9, L_ci g n k)]) (fun k => by kernel_rfl) (fun k => ⟨ci_loop hP g n k, trivial⟩) [0, 3] [0] [2] (S_cp g n) (fun k => 1 ≤ k ∧ k ≤ n ∧ allK g k = true) (fun k => n - k) 1
    ⟨Nat.le_refl _, by omega, rfl⟩ h0 (fun k hk => ?_) (fun k => ⟨fun _ _ => rfl, trivial⟩)
  obtain ⟨i1, i2, i3⟩ := hk
  have e1 : ((k : Int) - 1).toNat = k - 1 := by omega
  have hkp : keepF g k = !eqM (g k) (g (k - 1)) := keepF_pos (by omega)
  rw [nf_cp_round, Int.toNat_natCast, e1]
  refine condP_dec (fun h1 => ⟨⟨by omega, by omega⟩, ⟨by omega, rfl⟩, by simp only [inR]; omega, ⟨by omega, by omega⟩, ⟨by omega, rfl⟩, condP_intro (fun q => ?_) (fun q => ?_)⟩) (fun h1 => ?_)
  · have q : eqM (g k) (g (k - 1)) = true := q
    rw [q] at hkp
    refine ⟨⟨by omega, by omega⟩, ⟨rfl, ⟨rfl, rfl, rfl, rfl, rfl, fun _ _ => rfl⟩, trivial⟩, ⟨i1, by omega, hn⟩, i3, hkp, fun w h hw hl => ?_⟩
    rw [Int.toNat_natCast]
    exact ⟨⟨by omega, by omega⟩, hw, ⟨by omega, by omega⟩, fun _ _ => rfl, _, rowsEqR _, hR w h hl⟩
  · have q : eqM (g k) (g (k - 1)) = false := q
    rw [q] at hkp
    refine ⟨by simp only [inR]; omega, k + 1, ⟨rfl, ⟨rfl, rfl, rfl, rfl, rfl, fun _ _ => rfl⟩, trivial⟩, ⟨by omega, by omega, ?_⟩, by omega⟩
    rw [allK, i3, hkp]; rfl
  · have : k = n := by omega
    subst this
    exact ⟨fun _ _ => rfl, _, rowsEqR _, hQ i3⟩
theorem cmpct_ok (hP : C.P = Tryz.prog) : RSpecOK C 116 R_cmpct := by
  rintro args objs R h
  unfold R_cmpct at h
  split at h
  · rename_i n t m f fr
    obtain ⟨rfl, rfl, rfl, hn, hf, hR⟩ := h
    generalize mgOf f = g at *
    subst hf
    refine RSpecOK.wpL (prg hP) [] [(4, L_cp g n)] 0 .nil (hP ▸ Tryz.func116) rfl rfl rfl [(loopC Tryz.f116 4, L_cp g n)] (by kernel_rfl) ⟨cp_loop hP g n, trivial⟩ ?_
    rw [nf_cp]
    refine condP_dec (fun h1 => ⟨fun _ _ => rfl, _, rowsEqR _, hR n g ?_⟩) (fun h1 => ⟨⟨rfl, ⟨rfl, rfl, rfl, rfl, rfl, fun _ _ => rfl⟩, trivial⟩, by omega, hn, fun ha => ⟨fun _ _ => rfl, _, rowsEqR _, hR n g (allK_lst g ha).symm⟩, fun w h hl => ⟨fun _ _ => rfl, _, rowsEqR _, hR w h hl⟩⟩)
    have h1 : n < 2 := by omega
    match n, h1 with
    | 0, _ => rfl
    | 1, _ => rfl
  · exact h.elim
end Go.Eng
namespace Go.Proofs
open Go.Shelf
def Tryz.sort114_ren : Go.Shelf.Ren := ⟨fun | 6 => 114 | 15 => 137 | 14 => 154 | 28 => 175 | 29 => 176 | 20 => 189 | 21 => 190 | 22 => 191 | 23 => 192 | 24 => 193 | 25 => 194 | 26 => 195 | 27 => 196 | 46 => 224 | 47 => 209 | 48 => 210 | 49 => 225 | 50 => 226 | 57 => 241 | n => n, fun | 22 => 22 | 24 => 40 | 25 => 150 | 3 => 3 | 39 => 168 | 0 => 0 | 53 => 201 | 55 => 118 | 4 => 4 | 46 => 195 | 45 => 194 | 50 => 128 | 5 => 5 | 9 => 9 | 66 => 226 | 70 => 230 | 76 => 250 | 77 => 251 | n => n, fun | n => n⟩
theorem Tryz.sort114 : Go.Proofs.SlLaysF0.n6 Tryz.prog Tryz.sort114_ren := {
  mixed := by kernel_rfl
  f6 := ⟨Tryz.f114.name, by decide, Tryz.func114.trans (congrArg some (by kernel_rfl))⟩
  f14 := ⟨Tryz.f154.name, by decide, Tryz.func154.trans (congrArg some (by kernel_rfl))⟩
  f15 := Tryz.func137.trans (congrArg some (by kernel_rfl))
  f20 := ⟨Tryz.f189.name, by decide, Tryz.func189.trans (congrArg some (by kernel_rfl))⟩
  f21 := ⟨Tryz.f190.name, by decide, Tryz.func190.trans (congrArg some (by kernel_rfl))⟩
  f22 := ⟨Tryz.f191.name, by decide, Tryz.func191.trans (congrArg some (by kernel_rfl))⟩
  f23 := ⟨Tryz.f192.name, by decide, Tryz.func192.trans (congrArg some (by kernel_rfl))⟩
  f24 := ⟨Tryz.f193.name, by decide, Tryz.func193.trans (congrArg some (by kernel_rfl))⟩
  f25 := ⟨Tryz.f194.name, by decide, Tryz.func194.trans (congrArg some (by kernel_rfl))⟩
  f26 := ⟨Tryz.f195.name, by decide, Tryz.func195.trans (congrArg some (by kernel_rfl))⟩
  f27 := ⟨Tryz.f196.name, by decide, Tryz.func196.trans (congrArg some (by kernel_rfl))⟩
  f28 := Tryz.func175.trans (congrArg some (by kernel_rfl))
  f29 := Tryz.func176.trans (congrArg some (by kernel_rfl))
  f46 := ⟨Tryz.f224.name, by decide, Tryz.func224.trans (congrArg some (by kernel_rfl))⟩
  f47 := Tryz.func209.trans (congrArg some (by kernel_rfl))
  f48 := Tryz.func210.trans (congrArg some (by kernel_rfl))
  f49 := ⟨Tryz.f225.name, by decide, Tryz.func225.trans (congrArg some (by kernel_rfl))⟩
  f50 := ⟨Tryz.f226.name, by decide, Tryz.func226.trans (congrArg some (by kernel_rfl))⟩
  f57 := ⟨Tryz.f241.name, by decide, Tryz.func241.trans (congrArg some (by kernel_rfl))⟩
  t0 := Tryz.underlying0
  a0 := Tryz.isAgg0
  z0 := Tryz.sizeOf0
  v0 := Tryz.zeroValue0
  t3 := Tryz.underlying3
  a3 := Tryz.isAgg3
  z3 := Tryz.sizeOf3
  v3 := Tryz.zeroValue3
  t4 := Tryz.underlying4
  a4 := Tryz.isAgg4
  z4 := Tryz.sizeOf4
  v4 := Tryz.zeroValue4
  t5 := Tryz.underlying5
  a5 := Tryz.isAgg5
  z5 := Tryz.sizeOf5
  v5 := Tryz.zeroValue5
  t9 := Tryz.underlying9
  a9 := Tryz.isAgg9
  z9 := Tryz.sizeOf9
  v9 := Tryz.zeroValue9
  t22 := Tryz.underlying22
  a22 := Tryz.isAgg22
  z22 := Tryz.sizeOf22
  v22 := Tryz.zeroValue22
  t25 := Tryz.underlying150
  a25 := Tryz.isAgg150
  z25 := Tryz.sizeOf150
  v25 := Tryz.zeroValue150
  t39 := Tryz.underlying168
  a39 := Tryz.isAgg168
  z39 := Tryz.sizeOf168
  v39 := Tryz.zeroValue168
  t45 := Tryz.underlying194
  a45 := Tryz.isAgg194
  z45 := Tryz.sizeOf194
  v45 := Tryz.zeroValue194
  t46 := Tryz.underlying195
  a46 := Tryz.isAgg195
  z46 := Tryz.sizeOf195
  v46 := Tryz.zeroValue195
  t50 := Tryz.underlying128
  a50 := Tryz.isAgg128
  z50 := Tryz.sizeOf128
  v50 := Tryz.zeroValue128
  t53 := Tryz.underlying201
  a53 := Tryz.isAgg201
  z53 := Tryz.sizeOf201
  v53 := Tryz.zeroValue201
  t55 := Tryz.underlying118
  a55 := Tryz.isAgg118
  z55 := Tryz.sizeOf118
  v55 := Tryz.zeroValue118
  t66 := Tryz.underlying226
  a66 := Tryz.isAgg226
  z66 := Tryz.sizeOf226
  v66 := Tryz.zeroValue226
  t70 := Tryz.underlying230
  a70 := Tryz.isAgg230
  z70 := Tryz.sizeOf230
  v70 := Tryz.zeroValue230
  t76 := Tryz.underlying250
  a76 := Tryz.isAgg250
  z76 := Tryz.sizeOf250
  v76 := Tryz.zeroValue250
  t77 := Tryz.underlying251
  a77 := Tryz.isAgg251
  z77 := Tryz.sizeOf251
  v77 := Tryz.zeroValue251 }
end Go.Proofs
