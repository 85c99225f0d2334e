/- Rows of a scanner: what Validate answers; rows of a tape. -/
import Derived.Test.YtgcboligphndhaaGreatDoorEs
import Derived.Test.YtgcboligphndhaaGreatDoorEp
import Derived.Test.YtgcboligphndhaaGreatDoorEo
import Derived.Test.YtgcboligphndhaaGreatDoorEr
namespace Go.Eng
def dnM (L : List MG) (m : MG) : Nat → Nat
  | 0 => 0
  | a + 1 => bif decide (ordM m (atM L a) < 0) then dnM L m a else a + 1
def catM (g : Nat → MG) (n : Nat) (h : Nat → MG) (i : Nat) : MG := if i < n then g i else h (i - n)
def mfL (c : Nat → MG) (k : Nat) : List MG := mrgF (lst c k)
def S_rm (c : Nat → MG) (N k : Nat) : St := ⟨[(5, .own 0 (mfL c k).length), (14, .own 1 N), (15, .int .i64 N), (16, .int .i64 k)], [(0, .row 40 15 (mfL c k).length (mgRow (atM (mfL c k))) false), (1, .row 40 15 N (mgRow c) false)], 2, []⟩
def L_rm (c : Nat → MG) (N : Nat) : LSpec := fun st Q => canonIs te 0 [5, 14, 15, 16] (ownNil 5 40 15 st) (S_rm c N 0) ∧ N ≤ 200000 ∧ (∀ i, i < N → (c i).Sm) ∧
  Q (.exit 0) ⟨[(5, .own 0 (mfL c N).length)], [(0, .row 40 15 (mfL c N).length (mgRow (atM (mfL c N))) false)], 1, []⟩
def S_rmi (L : List MG) (m : MG) (c : Nat → MG) (N k a : Nat) : St := ⟨[(5, .own 0 L.length), (7, .ptr 1 0), (8, .int .i64 a), (14, .own 2 N), (15, .int .i64 N), (16, .int .i64 k)],
  [(0, .row 40 15 L.length (mgRow (atM L)) false), (1, .cells [.str m.dev, .int .i64 m.seq, .int .i64 m.kind, .str m.v.o, .str m.v.p, .int .i64 m.v.per, .int .i64 m.v.day, .int .i64 m.v.st, .int .i64 m.v.pr, .str m.v.rep, .str m.d.o, .str m.d.p, .int .i64 m.d.per, .str m.d.dev, .int .i64 m.d.num] 40), (2, .row 40 15 N (mgRow c) false)], 3, []⟩
def L_rmi (L : List MG) (m : MG) (c : Nat → MG) (N k : Nat) : LSpec := fun st Q => canonIs te 0 [5, 7, 8, 14, 15, 16] st (S_rmi L m c N k L.length) ∧ L.length ≤ 200000 ∧
  Q (.exit 2) (S_rmi L m c N k (dnM L m L.length))
def S_mrgVN : Spec
  | [.view 15 n f, .nil], [] => some (.view 15 (mrgL (mgOf f) n noM 0).length (mgRow (atM (mrgL (mgOf f) n noM 0))), [], n ≤ 100000 ∧ f = mgRow (mgOf f) ∧ ∀ i, i < n → (mgOf f i).Sm)
  | _, _ => none
end Go.Eng
namespace Go.Eng
def mkRow (g : Nat → List UInt8 × Int) (i : Nat) : List AV := [.str (g i).1, .int .i64 (g i).2]
def atK (L : List (List UInt8 × Int)) (i : Nat) : List UInt8 × Int := L.getD i ([], 0)
structure GS where
  out : List (List UInt8 × Int)
  dev : List UInt8
  next : Int
  miss : Int
def gp0 : GS := ⟨[], [], 1, 0⟩
def gpDev (s : GS) (m : MG) : GS := bif decide (m.dev = s.dev) then s else ⟨s.out, m.dev, 1, 0⟩
def gpFill (s : GS) (c : Nat) : GS := ⟨s.out ++ (List.range c).map (fun i : Nat => (s.dev, s.next + (i : Int))), s.dev, s.next + c, s.miss + c⟩
def gpCnt (s : GS) (seq : Int) : Nat := min (seq - s.next).toNat (400 - s.miss).toNat
def gpF (M : List MG) : Nat → GS
  | 0 => gp0
  | k + 1 => ⟨(gpFill (gpDev (gpF M k) (atM M k)) (gpCnt (gpDev (gpF M k) (atM M k)) (atM M k).seq)).out, (atM M k).dev, (atM M k).seq + 1, (gpFill (gpDev (gpF M k) (atM M k)) (gpCnt (gpDev (gpF M k) (atM M k)) (atM M k).seq)).miss⟩
def gapL (g : Nat → MG) (n : Nat) : List (List UInt8 × Int) := (gpF (mrgL g n noM 0) (mrgL g n noM 0).length).out
def S_gp (M : List MG) (k : Nat) : St := ⟨[(3, .own 0 (gpF M k).out.length), (4, .str (gpF M k).dev), (5, .int .i64 (gpF M k).next), (6, .int .i64 (gpF M k).miss), (10, .view 15 M.length (mgRow (atM M))), (11, .int .i64 M.length), (12, .int .i64 k)],
  [(0, .row 83 2 (gpF M k).out.length (mkRow (atK (gpF M k).out)) false)], 1, []⟩
def L_gp (M : List MG) : LSpec := fun st Q => canonIs te 0 [3, 4, 5, 6, 10, 11, 12] (ownNil 3 83 2 st) (S_gp M 0) ∧ M.length ≤ 100000 ∧ (∀ m ∈ M, msgF m = 0) ∧
  Q (.exit 0) ⟨[(3, .own 0 (gpF M M.length).out.length)], [(0, .row 83 2 (gpF M M.length).out.length (mkRow (atK (gpF M M.length).out)) false)], 1, []⟩
def S_gi (M : List MG) (k : Nat) (s : GS) (m : MG) (c : Nat) : St := ⟨[(3, .own 0 (gpFill s c).out.length), (4, .str (gpFill s c).dev), (5, .int .i64 (gpFill s c).next), (6, .int .i64 (gpFill s c).miss), (8, .ptr 1 0), (10, .view 15 M.length (mgRow (atM M))), (11, .int .i64 M.length), (12, .int .i64 k)],
  [(0, .row 83 2 (gpFill s c).out.length (mkRow (atK (gpFill s c).out)) false), (1, .cells [.str m.dev, .int .i64 m.seq, .int .i64 m.kind, .str m.v.o, .str m.v.p, .int .i64 m.v.per, .int .i64 m.v.day, .int .i64 m.v.st, .int .i64 m.v.pr, .str m.v.rep, .str m.d.o, .str m.d.p, .int .i64 m.d.per, .str m.d.dev, .int .i64 m.d.num] 40)], 2, []⟩
def L_gi (M : List MG) (k : Nat) (s : GS) (m : MG) : LSpec := fun st Q => canonIs te 0 [3, 4, 5, 6, 8, 10, 11, 12] st (S_gi M k s m 0) ∧ s.out.length ≤ 100000000 ∧ (-1 ≤ s.next ∧ s.next ≤ 1048577) ∧ (0 ≤ s.miss ∧ s.miss ≤ 400) ∧ (1 ≤ m.seq ∧ m.seq ≤ 1048576) ∧
  Q (.exit 2) (S_gi M k s m (gpCnt s m.seq))
def S_gaps : Spec
  | [.view 15 n f], [] => some (.view 2 (gapL (mgOf f) n).length (mkRow (atK (gapL (mgOf f) n))), [], n ≤ 100000 ∧ f = mgRow (mgOf f) ∧ ∀ i, i < n → (mgOf f i).Sm)
  | _, _ => none
end Go.Eng
namespace Go.Eng
def smK (x y : List UInt8 × Int) : Bool := decide (x.1 = y.1) && decide (x.2 = y.2)
theorem smK_iff {x y : List UInt8 × Int} : smK x y = true ↔ x = y := by
  obtain ⟨a, b⟩ := x
  obtain ⟨c, d⟩ := y
  simp [smK]
def clnP (M : List MG) : Nat → List (List UInt8 × Int)
  | 0 => []
  | k + 1 => bif decide (1 < numC (atM M) (mk2 (atM M k)) M.length) && (decide ((clnP M k).length = 0) || !smK (atK (clnP M k) ((clnP M k).length - 1)) (mk2 (atM M k))) then clnP M k ++ [mk2 (atM M k)] else clnP M k
def clnR (M : List MG) : Nat → List (List UInt8 × Int)
  | 0 => []
  | k + 1 => bif decide (0 < k) && (sameB (atM M (k - 1)) (atM M k) && (decide (k = 1) || !sameB (atM M (k - 2)) (atM M k))) then clnR M k ++ [mk2 (atM M k)] else clnR M k
theorem atK_mem {L : List (List UInt8 × Int)} {i : Nat} (h : i < L.length) : atK L i ∈ L := by
  unfold atK
  simp only [List.getD_eq_getElem?_getD, List.getElem?_eq_getElem h, Option.getD_some]
  exact List.getElem_mem h
theorem atK_last (L : List (List UInt8 × Int)) (x : List UInt8 × Int) : atK (L ++ [x]) ((L ++ [x]).length - 1) = x := by
  unfold atK
  simp
theorem clnP_mem {M : List MG} {x : List UInt8 × Int} : ∀ {k}, x ∈ clnP M k → ∃ i, i < k ∧ mk2 (atM M i) = x
  | 0, h => by simp [clnP] at h
  | k + 1, h => by
    rw [clnP] at h
    cases q : decide (1 < numC (atM M) (mk2 (atM M k)) M.length) && (decide ((clnP M k).length = 0) || !smK (atK (clnP M k) ((clnP M k).length - 1)) (mk2 (atM M k))) with
    | true =>
      rw [q] at h
      rcases List.mem_append.1 h with h | h
      · obtain ⟨i, hi, e⟩ := clnP_mem h
        exact ⟨i, by omega, e⟩
      · exact ⟨k, by omega, (List.mem_singleton.1 h).symm⟩
    | false =>
      rw [q] at h
      obtain ⟨i, hi, e⟩ := clnP_mem (k := k) h
      exact ⟨i, by omega, e⟩
theorem clnP_last {M : List MG} {k : Nat} (h : 1 < numC (atM M) (mk2 (atM M k)) M.length) : 0 < (clnP M (k + 1)).length ∧ atK (clnP M (k + 1)) ((clnP M (k + 1)).length - 1) = mk2 (atM M k) := by
  rw [clnP, decide_eq_true h, Bool.true_and]
  cases q : decide ((clnP M k).length = 0) || !smK (atK (clnP M k) ((clnP M k).length - 1)) (mk2 (atM M k)) with
  | true => exact ⟨by simp, atK_last _ _⟩
  | false =>
    rw [Bool.or_eq_false_iff, decide_eq_false_iff_not, Bool.not_eq_false'] at q
    exact ⟨by simp only [cond_false]; omega, smK_iff.1 q.2⟩
def frsB (M : List MG) (k : Nat) : Bool := decide (k + 1 < M.length) && (sameB (atM M k) (atM M (k + 1)) && !(decide (0 < k) && sameB (atM M (k - 1)) (atM M k)))
theorem clnP_step {M : List MG} (h : Asc ordM M) {k : Nat} (hk : k < M.length) : clnP M (k + 1) = bif frsB M k then clnP M k ++ [mk2 (atM M k)] else clnP M k := by
  have key : (decide (1 < numC (atM M) (mk2 (atM M k)) M.length) && (decide ((clnP M k).length = 0) || !smK (atK (clnP M k) ((clnP M k).length - 1)) (mk2 (atM M k)))) = frsB M k := by
    have hn := clnB_num h hk
    unfold clnB at hn
    rw [Bool.not_eq_eq_eq_not, Bool.not_not] at hn
    rw [← hn]
    unfold frsB
    by_cases p : 0 < k ∧ mk2 (atM M (k - 1)) = mk2 (atM M k)
    · have e1 : sameB (atM M (k - 1)) (atM M k) = true := sameB_iff.2 p.2
      rw [decide_eq_true p.1, e1]
      have : 1 < numC (atM M) (mk2 (atM M (k - 1))) M.length := (numC_two _ _ _).2 ⟨k - 1, k, by omega, hk, rfl, p.2.symm⟩
      have l := clnP_last this
      rw [show k - 1 + 1 = k by omega] at l
      rw [decide_eq_false (show ¬ (clnP M k).length = 0 by omega), l.2, p.2, smK_iff.2 rfl]
      simp
    · have e1 : (decide (0 < k) && sameB (atM M (k - 1)) (atM M k)) = false := by
        rw [Bool.and_eq_false_iff]
        by_cases q : 0 < k
        · right
          cases z : sameB (atM M (k - 1)) (atM M k) with
          | true => exact absurd ⟨q, sameB_iff.1 z⟩ p
          | false => rfl
        · exact .inl (decide_eq_false q)
      have e2 : (decide ((clnP M k).length = 0) || !smK (atK (clnP M k) ((clnP M k).length - 1)) (mk2 (atM M k))) = true := by
        by_cases q : (clnP M k).length = 0
        · rw [decide_eq_true q]; rfl
        · rw [decide_eq_false q, Bool.false_or]
          cases z : smK (atK (clnP M k) ((clnP M k).length - 1)) (mk2 (atM M k)) with
          | false => rfl
          | true =>
            obtain ⟨i, hi, e⟩ := clnP_mem (atK_mem (L := clnP M k) (i := (clnP M k).length - 1) (by omega))
            have e := e.trans (smK_iff.1 z)
            exact absurd ⟨by omega, (mark_mid h (i := i) (j := k - 1) (k := k) (by omega) (by omega) hk e).trans e⟩ p
      rw [e1, e2]
      have e3 : sameB (atM M (k + 1)) (atM M k) = sameB (atM M k) (atM M (k + 1)) := by
        rw [Bool.eq_iff_iff, sameB_iff, sameB_iff]; exact eq_comm
      rw [e3]
      simp
  rw [clnP, key]
theorem clnR_step {M : List MG} {k : Nat} (hk : k + 1 < M.length) : clnR M (k + 2) = bif frsB M k then clnR M (k + 1) ++ [mk2 (atM M k)] else clnR M (k + 1) := by
  have key : (decide (0 < k + 1) && (sameB (atM M (k + 1 - 1)) (atM M (k + 1)) && (decide (k + 1 = 1) || !sameB (atM M (k + 1 - 2)) (atM M (k + 1))))) = frsB M k := by
    unfold frsB
    rw [decide_eq_true (show 0 < k + 1 by omega), decide_eq_true hk, show k + 1 - 1 = k by omega, show k + 1 - 2 = k - 1 by omega]
    cases z : sameB (atM M k) (atM M (k + 1)) with
    | false => rfl
    | true =>
      have z := sameB_iff.1 z
      have e : sameB (atM M (k - 1)) (atM M (k + 1)) = sameB (atM M (k - 1)) (atM M k) := by
        rw [Bool.eq_iff_iff, sameB_iff, sameB_iff, z]
      rw [e]
      by_cases q : k = 0
      · subst q; simp
      · rw [decide_eq_false (show ¬ k + 1 = 1 by omega), decide_eq_true (show 0 < k by omega)]; simp
  rw [clnR, key]
  cases f : frsB M k with
  | false => rfl
  | true =>
    have : mk2 (atM M (k + 1)) = mk2 (atM M k) := by
      unfold frsB at f
      simp only [Bool.and_eq_true] at f
      exact (sameB_iff.1 f.2.1).symm
    rw [this]
theorem cln_eq {M : List MG} (h : Asc ordM M) : clnR M M.length = clnP M M.length := by
  have go : ∀ k, k < M.length → clnR M (k + 1) = clnP M k := by
    intro k
    induction k with
    | zero => intro _; rfl
    | succ k ih => intro hk; rw [clnR_step hk, ih (by omega), clnP_step h (by omega)]
  cases e : M.length with
  | zero => rfl
  | succ m =>
    rw [go m (by omega), clnP_step h (by omega)]
    have : frsB M m = false := by unfold frsB; rw [decide_eq_false (by omega)]; rfl
    rw [this]; rfl
end Go.Eng
namespace Go.Eng
def candL (g : Nat → MG) (n : Nat) (o p : List UInt8) (per : Int) : List MG := canL o p per (atM (rightL g n)) (rightL g n).length
def S_candR : Spec
  | [.view 15 n f, .str o, .str p, .int .i64 per], [] => some (.view 15 (candL (mgOf f) n o p per).length (mgRow (atM (candL (mgOf f) n o p per))), [], n ≤ 100000 ∧ f = mgRow (mgOf f) ∧ ∀ i, i < n → (mgOf f i).Sm)
  | _, _ => none
end Go.Eng
namespace Go.Eng
theorem rightL_set {g : Nat → MG} {n : Nat} {t : Nat → MG} {k : Nat} (e : ∀ x, x ∈ lst t k ↔ x ∈ lst g n) : rightL t k = rightL g n := by
  unfold rightL; rw [mrgL_set e]
theorem resF_set {g : Nat → MG} {n : Nat} {t : Nat → MG} {k : Nat} (e : ∀ x, x ∈ lst t k ↔ x ∈ lst g n) (o p : List UInt8) (per : Int) : resF t k o p per = resF g n o p per := by
  unfold resF; rw [rightL_set e]
theorem candL_set {g : Nat → MG} {n : Nat} {t : Nat → MG} {k : Nat} (e : ∀ x, x ∈ lst t k ↔ x ∈ lst g n) (o p : List UInt8) (per : Int) : candL t k o p per = candL g n o p per := by
  unfold candL; rw [rightL_set e]
theorem gapL_set {g : Nat → MG} {n : Nat} {t : Nat → MG} {k : Nat} (e : ∀ x, x ∈ lst t k ↔ x ∈ lst g n) : gapL t k = gapL g n := by
  unfold gapL; rw [mrgL_set e]
def clonL (g : Nat → MG) (n : Nat) : List (List UInt8 × Int) := clnP (mrgL g n noM 0) (mrgL g n noM 0).length
theorem clonL_set {g : Nat → MG} {n : Nat} {t : Nat → MG} {k : Nat} (e : ∀ x, x ∈ lst t k ↔ x ∈ lst g n) : clonL t k = clonL g n := by
  unfold clonL; rw [mrgL_set e]
theorem clonL_ref (g : Nat → MG) (n : Nat) : clnR (mrgL g n noM 0) (mrgL g n noM 0).length = clonL g n := cln_eq (mrgF_asc _)
theorem clnP_len (M : List MG) : ∀ k, (clnP M k).length ≤ k
  | 0 => Nat.le_refl _
  | k + 1 => by
    have ih := clnP_len M k
    rw [clnP]
    cases decide (1 < numC (atM M) (mk2 (atM M k)) M.length) && (decide ((clnP M k).length = 0) || !smK (atK (clnP M k) ((clnP M k).length - 1)) (mk2 (atM M k))) with
    | true => rw [cond_true, List.length_append]; show _ + 1 ≤ _; omega
    | false => rw [cond_false]; omega
theorem clnR_len (M : List MG) : ∀ k, (clnR M k).length ≤ k
  | 0 => Nat.le_refl _
  | k + 1 => by
    have ih := clnR_len M k
    rw [clnR]
    cases decide (0 < k) && (sameB (atM M (k - 1)) (atM M k) && (decide (k = 1) || !sameB (atM M (k - 2)) (atM M k))) with
    | true => rw [cond_true, List.length_append]; show _ + 1 ≤ _; omega
    | false => rw [cond_false]; omega
end Go.Eng
namespace Go.Eng
def eqKs (g h : Nat → List UInt8 × Int) : Nat → Bool
  | 0 => true
  | k + 1 => eqKs g h k && smK (g k) (h k)
def mkOf (f : Nat → List AV) (i : Nat) : List UInt8 × Int := match f i with
  | [.str d, .int .i64 s] => (d, s)
  | _ => ([], 0)
def S_sameK : Spec
  | [.view 2 n f, .view 2 m h], [] => some (.bool (decide (n = m) && eqKs (mkOf f) (mkOf h) n), [], n ≤ 100000000 ∧ f = mkRow (mkOf f) ∧ h = mkRow (mkOf h))
  | _, _ => none
def S_sk (g h : Nat → List UInt8 × Int) (n k : Nat) : St := ⟨[(0, .view 2 n (mkRow g)), (1, .view 2 n (mkRow h)), (12, .int .i64 n), (13, .int .i64 k)], [], 0, []⟩
def L_sk (g h : Nat → List UInt8 × Int) (n : Nat) : LSpec := fun st Q => canonIs te 0 [0, 1, 12, 13] st (S_sk g h n 0) ∧ n ≤ 100000000 ∧
  condP (eqKs g h n) (Q (.exit 0) ⟨[], [], 0, []⟩) (Q .ret ⟨[(4, .bool false)], [], 0, []⟩)
def S_cn (M : List MG) (k : Nat) : St := ⟨[(4, .map 0), (5, .own 1 (clnP M k).length), (13, .own 2 M.length), (14, .int .i64 M.length), (15, .int .i64 k)],
  [(0, .amap (entM (cntL (atM M) M.length))), (1, .row 83 2 (clnP M k).length (mkRow (atK (clnP M k))) false), (2, .row 40 15 M.length (mgRow (atM M)) false)], 3, []⟩
def L_cn (M : List MG) : LSpec := fun st Q => canonIs te 0 [4, 5, 13, 14, 15] (ownNil 5 83 2 st) (S_cn M 0) ∧ M.length ≤ 100000 ∧
  Q (.exit 0) ⟨[(5, .own 0 (clnP M M.length).length)], [(0, .row 83 2 (clnP M M.length).length (mkRow (atK (clnP M M.length))) false)], 1, []⟩
def S_cloned : Spec
  | [.view 15 n f], [] => some (.view 2 (clonL (mgOf f) n).length (mkRow (atK (clonL (mgOf f) n))), [], n ≤ 100000 ∧ f = mgRow (mgOf f) ∧ ∀ i, i < n → (mgOf f i).Sm)
  | _, _ => none
def S_cr11 (M : List MG) (k : Nat) : St := ⟨[(3, .view 15 M.length (mgRow (atM M))), (4, .own 0 (clnR M k).length), (9, .int .i64 M.length), (10, .int .i64 k)], [(0, .row 83 2 (clnR M k).length (mkRow (atK (clnR M k))) false)], 1, []⟩
def L_cr11 (M : List MG) : LSpec := fun st Q => canonIs te 0 [3, 4, 9, 10] (ownNil 4 83 2 st) (S_cr11 M 0) ∧ M.length ≤ 100000 ∧
  Q (.exit 0) ⟨[(4, .own 0 (clnR M M.length).length)], [(0, .row 83 2 (clnR M M.length).length (mkRow (atK (clnR M M.length))) false)], 1, []⟩
def S_gq (M : List MG) (k : Nat) : St := ⟨[(3, .own 0 (gpF M k).out.length), (4, .int .i64 (gpF M k).next), (5, .int .i64 (gpF M k).miss), (6, .view 15 M.length (mgRow (atM M))), (11, .view 15 M.length (mgRow (atM M))), (12, .int .i64 M.length), (13, .int .i64 k)],
  [(0, .row 83 2 (gpF M k).out.length (mkRow (atK (gpF M k).out)) false)], 1, []⟩
def L_gq (M : List MG) : LSpec := fun st Q => canonIs te 0 [3, 4, 5, 6, 11, 12, 13] (ownNil 3 83 2 st) (S_gq M 0) ∧ M.length ≤ 100000 ∧ (∀ m ∈ M, msgF m = 0) ∧
  Q (.exit 0) ⟨[(3, .own 0 (gpF M M.length).out.length)], [(0, .row 83 2 (gpF M M.length).out.length (mkRow (atK (gpF M M.length).out)) false)], 1, []⟩
def S_gj (M : List MG) (k : Nat) (s : GS) (m : MG) (c : Nat) : St := ⟨[(3, .own 0 (gpFill s c).out.length), (4, .int .i64 (gpFill s c).next), (5, .int .i64 (gpFill s c).miss), (6, .view 15 M.length (mgRow (atM M))), (8, .ptr 1 0), (11, .view 15 M.length (mgRow (atM M))), (12, .int .i64 M.length), (13, .int .i64 k)],
  [(0, .row 83 2 (gpFill s c).out.length (mkRow (atK (gpFill s c).out)) false), (1, .cells [.str m.dev, .int .i64 m.seq, .int .i64 m.kind, .str m.v.o, .str m.v.p, .int .i64 m.v.per, .int .i64 m.v.day, .int .i64 m.v.st, .int .i64 m.v.pr, .str m.v.rep, .str m.d.o, .str m.d.p, .int .i64 m.d.per, .str m.d.dev, .int .i64 m.d.num] 40)], 2, []⟩
def L_gj (M : List MG) (k : Nat) (s : GS) (m : MG) : LSpec := fun st Q => canonIs te 0 [3, 4, 5, 6, 8, 11, 12, 13] st (S_gj M k s m 0) ∧ s.dev = m.dev ∧ s.out.length ≤ 100000000 ∧ (-1 ≤ s.next ∧ s.next ≤ 1048577) ∧ (0 ≤ s.miss ∧ s.miss ≤ 400) ∧ (1 ≤ m.seq ∧ m.seq ≤ 1048576) ∧
  Q (.exit 2) (S_gj M k s m (gpCnt s m.seq))
end Go.Eng
namespace Go.Eng
end Go.Eng
namespace Go.Eng
def S_lo (ga : Nat → MG) (na : Nat) (gb : Nat → MG) (nb k : Nat) : St := ⟨[(4, .view 15 na (mgRow ga)), (5, .view 15 nb (mgRow gb)), (35, .view 15 na (mgRow ga)), (36, .int .i64 na), (37, .int .i64 k)], [], 0, []⟩
def L_lo : LSpec := fun st Q => ∃ (na : Nat) (ga : Nat → MG) (nb : Nat) (gb : Nat → MG), canonIs te 0 [4, 5, 35, 36, 37] st (S_lo ga na gb nb 0) ∧ na ≤ 1000 ∧ nb ≤ 1000 ∧ (∀ i, i < na → (ga i).Sm) ∧ (∀ i, i < nb → (gb i).Sm) ∧ (∀ x, x ∈ lst gb nb ↔ x ∈ lst ga na) ∧ Q (.exit 0) ⟨[], [], 0, []⟩
end Go.Eng
namespace Go.Eng
open Go.Proofs Go.RowKit
set_option maxRecDepth 20000
theorem nf_nameR (s : List UInt8) (R : AV → List (Nat × AObj) → Prop) : wpFn te [] [(2, L_nameR s)] 0 Tryz.f75 [.str s] [] R = (letI z0 := (↑(List.length s) : Int); some (St.mk [(0, .str s), (6, .int .i64 z0), (7, .int .i64 0)] [] 0 []) = some (St.mk [(0, .str s), (6, .int .i64 z0), (7, .int .i64 (↑0 : Int))] [] 0 []) ∧ ((∀ (k : Nat), k < List.length s → OKat s k) → condP (decide ((1 : Int) ≤ z0)) (R (.bool (decide (z0 ≤ (24 : Int)))) []) (R (.bool false) [])) ∧ ∀ (k : Nat), k < List.length s → ¬OKat s k → R (.bool false) []) := by kernel_rfl
theorem nf_nameR_round (s : List UInt8) (k : Nat) (P : Nat → Prop) (R : Exit → St → Prop) : roundP ⟨te, [], [], 0, 59, 0⟩ (loopB Tryz.f75 2) [0, 6, 7] [0] [2] (S_nrState s) P R (S_nrState s k) = (letI z4 := R .ret (St.mk [(2, .bool false)] [] 0 []); letI z3 := (↑(List.length s) : Int); letI z2 := (↑(UInt8.toNat (List.getD s (Int.toNat (↑k : Int)) (0 : UInt8))) : Int); letI z1 := (inR .i64 ((↑k : Int) + (1 : Int)) ∧ ∃ (i' : Nat), some (St.mk [(0, .str s), (6, .int .i64 z3), (7, .int .i64 ((↑k : Int) + (1 : Int)))] [] 0 []) = some (St.mk [(0, .str s), (6, .int .i64 z3), (7, .int .i64 (↑i' : Int))] [] 0 []) ∧ P i'); letI z0 := (condP (decide ((↑k : Int) = (0 : Int))) z4 (((0 : Int) ≤ (↑k : Int) ∧ (↑k : Int) < z3) ∧ condP (!decide (z2 = (45 : Int))) (((0 : Int) ≤ (↑k : Int) ∧ (↑k : Int) < z3) ∧ condP (!decide (z2 = (46 : Int))) z4 z1) z1)); condP (decide ((↑k : Int) < z3)) (((0 : Int) ≤ (↑k : Int) ∧ (↑k : Int) < z3) ∧ condP (decide ((97 : Int) ≤ z2)) (((0 : Int) ≤ (↑k : Int) ∧ (↑k : Int) < z3) ∧ condP (decide (z2 ≤ (122 : Int))) z1 (((0 : Int) ≤ (↑k : Int) ∧ (↑k : Int) < z3) ∧ condP (decide ((48 : Int) ≤ z2)) (((0 : Int) ≤ (↑k : Int) ∧ (↑k : Int) < z3) ∧ condP (!decide (z2 ≤ (57 : Int))) z0 z1) z0)) (((0 : Int) ≤ (↑k : Int) ∧ (↑k : Int) < z3) ∧ condP (decide ((48 : Int) ≤ z2)) (((0 : Int) ≤ (↑k : Int) ∧ (↑k : Int) < z3) ∧ condP (!decide (z2 ≤ (57 : Int))) z0 z1) z0)) (R (.exit 0) (St.mk [(0, .str s)] [] 0 []))) := by kernel_rfl
theorem nf_cdR (s : List UInt8) (R : AV → List (Nat × AObj) → Prop) : wpFn te [] [(5, L_checkDigitR s)] 0 Tryz.f98 [.str s] [] R = (letI z2 := R (.tuple [.int .i64 0, .bool false]) []; letI z1 := (↑(List.length s) : Int); letI z0 := (some (St.mk [(0, .str s), (4, .int .i64 0), (16, .int .i64 z1), (17, .int .i64 0)] [] 0 []) = some (St.mk [(0, .str s), (4, .int .i64 (cdSum s 0)), (16, .int .i64 z1), (17, .int .i64 (↑0 : Int))] [] 0 []) ∧ List.length s ≤ 12 ∧ condP (List.all s isDig) ((10 : Int) ≠ (0 : Int) ∧ inR .i64 ((10 : Int) - Int.tmod (cdSum s (List.length s)) (10 : Int)) ∧ (10 : Int) ≠ (0 : Int) ∧ R (.tuple [.int .i64 (Int.tmod ((10 : Int) - Int.tmod (cdSum s (List.length s)) (10 : Int)) (10 : Int)), .bool true]) []) z2); condP (!decide (z1 = (7 : Int))) (condP (!decide (z1 = (12 : Int))) z2 z0) z0) := by kernel_rfl
theorem nf_cdR_round (s : List UInt8) (k : Nat) (P : Nat → Prop) (R : Exit → St → Prop) : roundP ⟨te, [], [], 0, 50, 0⟩ (loopB Tryz.f98 5) [0, 4, 16, 17] [4] [2, 3] (S_cdrState s) P R (S_cdrState s k) = (letI z2 := R .ret (St.mk [(2, .int .i64 0), (3, .bool false)] [] 0 []); letI z1 := (↑(List.length s) : Int); letI z0 := (↑(UInt8.toNat (List.getD s (Int.toNat (↑k : Int)) (0 : UInt8))) : Int); letI z4 := (cdSum s k + (1 : Int) * ((z0 - (48 : Int)) % (256 : Int))); letI z3 := (cdSum s k + (3 : Int) * ((z0 - (48 : Int)) % (256 : Int))); condP (decide ((↑k : Int) < z1)) (((0 : Int) ≤ (↑k : Int) ∧ (↑k : Int) < z1) ∧ condP (decide (z0 < (48 : Int))) z2 (((0 : Int) ≤ (↑k : Int) ∧ (↑k : Int) < z1) ∧ condP (decide ((57 : Int) < z0)) z2 (inR .i64 (z1 - (↑k : Int)) ∧ (2 : Int) ≠ (0 : Int) ∧ condP (decide (Int.tmod (z1 - (↑k : Int)) (2 : Int) = (1 : Int))) (((0 : Int) ≤ (↑k : Int) ∧ (↑k : Int) < z1) ∧ inR .i64 ((z0 - (48 : Int)) % (256 : Int)) ∧ inR .i64 ((3 : Int) * ((z0 - (48 : Int)) % (256 : Int))) ∧ inR .i64 z3 ∧ inR .i64 ((↑k : Int) + (1 : Int)) ∧ ∃ (i' : Nat), some (St.mk [(0, .str s), (4, .int .i64 z3), (16, .int .i64 z1), (17, .int .i64 ((↑k : Int) + (1 : Int)))] [] 0 []) = some (St.mk [(0, .str s), (4, .int .i64 (cdSum s i')), (16, .int .i64 z1), (17, .int .i64 (↑i' : Int))] [] 0 []) ∧ P i') (((0 : Int) ≤ (↑k : Int) ∧ (↑k : Int) < z1) ∧ inR .i64 ((z0 - (48 : Int)) % (256 : Int)) ∧ inR .i64 ((1 : Int) * ((z0 - (48 : Int)) % (256 : Int))) ∧ inR .i64 z4 ∧ inR .i64 ((↑k : Int) + (1 : Int)) ∧ ∃ (i' : Nat), some (St.mk [(0, .str s), (4, .int .i64 z4), (16, .int .i64 z1), (17, .int .i64 ((↑k : Int) + (1 : Int)))] [] 0 []) = some (St.mk [(0, .str s), (4, .int .i64 (cdSum s i')), (16, .int .i64 z1), (17, .int .i64 (↑i' : Int))] [] 0 []) ∧ P i')))) (R (.exit 0) (St.mk [(4, .int .i64 (cdSum s k))] [] 0 []))) := by kernel_rfl
theorem nf_validIDR (s : List UInt8) (R : AV → List (Nat × AObj) → Prop) : wpFn te [(98, .det S_checkDigit)] [] 0 Tryz.f162 [.str s] [] R = (letI z1 := (↑(List.length s) : Int); letI z2 := (cdF (List.take (Int.toNat (z1 - (1 : Int))) s)); letI z0 := (inR .i64 (z1 - (1 : Int)) ∧ ((0 : Int) ≤ z1 - (1 : Int) ∧ z1 - (1 : Int) ≤ z1) ∧ True ∧ condP (Prod.snd z2) (inR .i64 (z1 - (1 : Int)) ∧ ((0 : Int) ≤ z1 - (1 : Int) ∧ z1 - (1 : Int) < z1) ∧ inR .i64 ((48 : Int) + Prod.fst z2) ∧ inR .u8 ((48 : Int) + Prod.fst z2) ∧ R (.bool (decide ((↑(UInt8.toNat (List.getD s (Int.toNat (z1 - (1 : Int))) (0 : UInt8))) : Int) = (48 : Int) + Prod.fst z2))) []) (R (.bool false) [])); condP (!decide (z1 = (8 : Int))) (condP (!decide (z1 = (13 : Int))) (R (.bool false) []) z0) z0) := by kernel_rfl
variable {C : Ctx} [C.Loose]
theorem nameR_loop (hP : C.P = Tryz.prog) (s : List UInt8) (hm : s.length ≤ 9223372036854775806) : LoopOK C 0 59 (loopC Tryz.f75 2) (L_nameR s) := by
  have _ : C.Loose := inferInstance
  rintro st Q ⟨h0, hQ1, hQ2⟩
  refine LoopOK.mk (prg hP) [] 0 .nil [0, 6, 7] [0] [2] (S_nrState s) (fun k => k ≤ s.length ∧ ∀ j, j < k → OKat s j) (fun k => s.length - k) 0 ⟨Nat.zero_le _, fun j h => by omega⟩ h0 fun k ⟨hk, hall⟩ => ?_
  rw [nf_nameR_round]
  refine condP_dec (fun h => ?_) (fun h => ?_)
  · have hlt : k < s.length := by omega
    have hret : ¬ OKat s k → Q .ret ⟨[(2, .bool false)], [], 0, []⟩ := hQ2 k hlt
    have hgo : OKat s k → ∃ i' : Nat, some (St.mk [(0, .str s), (6, .int .i64 (s.length : Int)), (7, .int .i64 ((k : Int) + 1))] [] 0 []) = some (St.mk [(0, .str s), (6, .int .i64 (s.length : Int)), (7, .int .i64 (i' : Int))] [] 0 []) ∧ (i' ≤ s.length ∧ ∀ j, j < i' → OKat s j) ∧ s.length - i' < s.length - k := fun hok =>
      ⟨k + 1, rfl, ⟨by omega, fun j hj => by
        rcases Nat.lt_succ_iff_lt_or_eq.1 hj with hj | rfl
        · exact hall j hj
        · exact hok⟩, by omega⟩
    unfold OKat at hret hgo
    simp only [Int.toNat_natCast, inR]
    repeat' (first | (refine condP_dec (fun _ => ?_) (fun _ => ?_)) | (refine condP_ndec (fun _ => ?_) (fun _ => ?_)) | (refine And.intro (by omega) ?_) | fail)
    all_goals (first | exact hret (by omega) | exact hgo (by omega))
  · exact hQ1 fun j hj => hall j (by omega)
theorem nameR_ok (hP : C.P = Tryz.prog) : SpecOK C 75 S_nameR := by
  rintro args objs U Os vc h hvc
  unfold S_nameR at h
  split at h <;> simp only [Option.some.injEq, Prod.mk.injEq, reduceCtorEq] at h
  rename_i s
  obtain ⟨rfl, rfl, rfl⟩ := h
  refine SpecOK.wpL (prg hP) [] [(2, L_nameR s)] 0 .nil (hP ▸ Tryz.func75) rfl rfl rfl [(loopC Tryz.f75 2, L_nameR s)] (by kernel_rfl) ⟨nameR_loop hP s hvc, trivial⟩ ?_
  rw [nf_nameR]
  refine ⟨rfl, fun hall => condP_dec (fun h1 => ⟨congrArg AV.bool ?_, rfl⟩) (fun h1 => ⟨congrArg AV.bool ?_, rfl⟩), fun k hk hno => ⟨congrArg AV.bool ?_, rfl⟩⟩
  · by_cases h2 : s.length ≤ 24
    · rw [(nameF_iff s).2 ⟨⟨by omega, h2⟩, hall⟩]; exact decide_eq_true (by omega)
    · rw [decide_eq_false (by omega)]
      cases hn : nameF s with
      | false => rfl
      | true => exact absurd ((nameF_iff s).1 hn).1.2 h2
  · cases hn : nameF s with
    | false => rfl
    | true => exact absurd ((nameF_iff s).1 hn).1.1 (by omega)
  · cases hn : nameF s with
    | false => rfl
    | true => exact absurd (((nameF_iff s).1 hn).2 k hk) hno
theorem cdR_loop (hP : C.P = Tryz.prog) (s : List UInt8) : LoopOK C 0 50 (loopC Tryz.f98 5) (L_checkDigitR s) := by
  have _ : C.Loose := inferInstance
  rintro st Q ⟨h0, hlen, hQ⟩
  have hQ := condP_elim hQ
  refine LoopOK.mk (prg hP) [] 0 .nil [0, 4, 16, 17] [4] [2, 3] (S_cdrState s) (fun k => k ≤ s.length ∧ ∀ j, j < k → 48 ≤ (s.getD j 0).toNat ∧ (s.getD j 0).toNat ≤ 57) (fun k => s.length - k) 0 ⟨Nat.zero_le _, fun j h => by omega⟩ h0 fun k ⟨hk, hall⟩ => ?_
  rw [nf_cdR_round]
  have hb := cdSum_boundk k hk hall
  refine condP_dec (fun h => ?_) (fun h => ?_)
  · have hlt : k < s.length := by omega
    have hret : ¬ (48 ≤ (s.getD k 0).toNat ∧ (s.getD k 0).toNat ≤ 57) → Q .ret ⟨[(2, .int .i64 0), (3, .bool false)], [], 0, []⟩ := fun hno => hQ.2 (by
      cases ha : s.all isDig with
      | false => rfl
      | true => exact absurd (isDig_at ha k hlt) hno)
    have e : Int.tmod (↑s.length - ↑k) 2 = (↑s.length - ↑k) % 2 := Int.tmod_eq_emod_of_nonneg (by omega)
    have hs : cdSum s (k + 1) = cdSum s k + (1 + 2 * ((↑s.length - ↑k) % 2)) * (↑(s.getD k 0).toNat - 48) := rfl
    have hgo : (48 ≤ (s.getD k 0).toNat ∧ (s.getD k 0).toNat ≤ 57) → (k + 1 ≤ s.length ∧ ∀ j, j < k + 1 → 48 ≤ (s.getD j 0).toNat ∧ (s.getD j 0).toNat ≤ 57) ∧ s.length - (k + 1) < s.length - k := fun hok =>
      ⟨⟨by omega, fun j hj => by
        rcases Nat.lt_succ_iff_lt_or_eq.1 hj with hj | rfl
        · exact hall j hj
        · exact hok⟩, by omega⟩
    simp only [Int.toNat_natCast, inR, e]
    refine ⟨by omega, condP_dec (fun h1 => hret (by omega)) (fun h1 => ⟨by omega, condP_dec (fun h2 => hret (by omega)) (fun h2 => ⟨by omega, by omega, ?_⟩)⟩)⟩
    have hgo := hgo (by omega)
    have e3 : ((s.getD k 0).toNat - 48 : Int) % 256 = (s.getD k 0).toNat - 48 := by omega
    rw [e3]
    refine condP_dec (fun h3 => ?_) (fun h3 => ?_)
    · rw [h3] at hs
      exact ⟨by omega, by omega, by omega, by omega, by omega, k + 1, by rw [hs]; rfl, hgo⟩
    · have h3 : (↑s.length - ↑k : Int) % 2 = 0 := by omega
      rw [h3] at hs
      exact ⟨by omega, by omega, by omega, by omega, by omega, k + 1, by rw [hs]; rfl, hgo⟩
  · have hks : k = s.length := by omega
    rw [hks]
    exact hQ.1 (all_isDig fun j hj => hall j (by omega))
theorem cdR_ok (hP : C.P = Tryz.prog) : SpecOK C 98 S_checkDigit := by
  rintro args objs U Os vc h hvc
  unfold S_checkDigit at h
  split at h <;> simp only [Option.some.injEq, Prod.mk.injEq, reduceCtorEq] at h
  rename_i s
  obtain ⟨rfl, rfl, rfl⟩ := h
  refine SpecOK.wpL (prg hP) [] [(5, L_checkDigitR s)] 0 .nil (hP ▸ Tryz.func98) rfl rfl rfl [(loopC Tryz.f98 5, L_checkDigitR s)] (by kernel_rfl) ⟨cdR_loop hP s, trivial⟩ ?_
  rw [nf_cdR]
  have main : (s.length = 7 ∨ s.length = 12) → condP (s.all isDig) ((10 : Int) ≠ 0 ∧ inR .i64 (10 - Int.tmod (cdSum s s.length) 10) ∧ (10 : Int) ≠ 0 ∧ AV.tuple [.int .i64 (Int.tmod (10 - Int.tmod (cdSum s s.length) 10) 10), .bool true] = .tuple [.int .i64 (cdF s).1, .bool (cdF s).2] ∧ ([] : List (Nat × AObj)) = [])
      (AV.tuple [.int .i64 0, .bool false] = .tuple [.int .i64 (cdF s).1, .bool (cdF s).2] ∧ ([] : List (Nat × AObj)) = []) := by
    intro hl
    have hd : digitsF s 7 12 = s.all isDig := by
      unfold digitsF
      rcases hl with h | h <;> simp [h]
    refine condP_intro (fun ha => ?_) (fun ha => ?_)
    · have hb := cdSum_bound ha s.length (Nat.le_refl _)
      have e : Int.tmod (cdSum s s.length) 10 = cdSum s s.length % 10 := Int.tmod_eq_emod_of_nonneg (by omega)
      rw [e, Int.tmod_eq_emod_of_nonneg (by omega)]
      refine ⟨by omega, by simp only [inR]; omega, by omega, ?_, rfl⟩
      simp [cdF, hd, ha]
    · refine ⟨?_, rfl⟩
      simp [cdF, hd, ha]
  refine condP_ndec (fun h1 => condP_ndec (fun h2 => ⟨?_, rfl⟩) (fun h2 => ⟨rfl, by omega, main (by omega)⟩)) (fun h1 => ⟨rfl, by omega, main (by omega)⟩)
  have hd : digitsF s 7 12 = false := by unfold digitsF; rw [decide_eq_false h1, decide_eq_false h2]; rfl
  simp [cdF, hd]
theorem validIDR_ok (hP : C.P = Tryz.prog) : SpecOK C 162 S_validID := by
  rintro args objs U Os vc h hvc
  unfold S_validID at h
  split at h <;> simp only [Option.some.injEq, Prod.mk.injEq, reduceCtorEq] at h
  rename_i s
  obtain ⟨rfl, rfl, rfl⟩ := h
  refine SpecOK.wp0 (prg hP) [(98, .det S_checkDigit)] 0 (.cons (cdR_ok hP) .nil) (hP ▸ Tryz.func162) rfl rfl rfl ?_
  rw [nf_validIDR]
  have e1 : ∀ h : s.length = 8 ∨ s.length = 13, (↑s.length - 1 : Int).toNat = s.length - 1 := by intro h; omega
  have hcd := cdF_bound (s.take (s.length - 1))
  have last : (s.length = 8 ∨ s.length = 13) → (s.all isDig = ((cdF (s.take (s.length - 1))).2 && isDig (s.getD (s.length - 1) 0))) := by
    intro hl
    have h2 : (cdF (s.take (s.length - 1))).2 = (s.take (s.length - 1)).all isDig := by
      have hd : digitsF (s.take (s.length - 1)) 7 12 = (s.take (s.length - 1)).all isDig := by
        unfold digitsF
        have : (s.take (s.length - 1)).length = s.length - 1 := by simp
        rcases hl with h | h <;> simp [h]
      unfold cdF
      rw [hd]
      cases (s.take (s.length - 1)).all isDig <;> rfl
    have hs : s = s.take (s.length - 1) ++ [s.getD (s.length - 1) 0] := by
      have hlt : s.length - 1 < s.length := by omega
      have := (List.take_append_drop (s.length - 1) s).symm
      rw [List.drop_eq_getElem_cons hlt] at this
      have e : s.getD (s.length - 1) 0 = s[s.length - 1] := by simp [List.getD, hlt]
      rw [e]
      have hd : List.drop (s.length - 1 + 1) s = [] := List.drop_eq_nil_of_le (by omega)
      rw [hd] at this
      exact this
    rw [h2]
    conv => lhs; rw [hs]
    simp
  have hv : (s.length = 8 ∨ s.length = 13) → validIDF s = ((cdF (s.take (s.length - 1))).2 && decide ((s.getD (s.length - 1) 0).toNat = 48 + (cdF (s.take (s.length - 1))).1)) := by
    intro hl
    have hd : digitsF s 8 13 = s.all isDig := by
      unfold digitsF
      rcases hl with h | h <;> simp [h]
    unfold validIDF
    rw [hd, last hl]
    cases hc : (cdF (s.take (s.length - 1))).2 with
    | false => rfl
    | true =>
      simp only [Bool.true_and]
      cases hi : isDig (s.getD (s.length - 1) 0) with
      | true =>
        refine decide_eq_decide.2 ?_
        omega
      | false =>
        refine (decide_eq_false fun he => ?_).symm
        simp only [isDig, Bool.and_eq_false_imp, decide_eq_true_eq, decide_eq_false_iff_not] at hi
        omega
  have main : (s.length = 8 ∨ s.length = 13) → condP (cdF (s.take (s.length - 1))).2 (inR .i64 (↑s.length - 1) ∧ (0 ≤ (↑s.length - 1 : Int) ∧ (↑s.length - 1 : Int) < ↑s.length) ∧ inR .i64 (48 + (cdF (s.take (s.length - 1))).1) ∧ inR .u8 (48 + (cdF (s.take (s.length - 1))).1) ∧
      AV.bool (decide ((↑(s.getD (s.length - 1) 0).toNat : Int) = 48 + (cdF (s.take (s.length - 1))).1)) = .bool (validIDF s) ∧ ([] : List (Nat × AObj)) = []) (AV.bool false = .bool (validIDF s) ∧ ([] : List (Nat × AObj)) = []) := by
    intro hl
    rw [hv hl]
    refine condP_intro (fun hc => ?_) (fun hc => ?_)
    · simp only [inR, hc, Bool.true_and]
      exact ⟨by omega, by omega, by omega, by omega, by simp⟩
    · simp [hc]
  refine condP_ndec (fun h1 => condP_ndec (fun h2 => ⟨?_, rfl⟩) (fun h2 => ?_)) (fun h1 => ?_)
  · have hd : digitsF s 8 13 = false := by unfold digitsF; rw [decide_eq_false h1, decide_eq_false h2]; rfl
    simp [validIDF, hd]
  · have hl : s.length = 8 ∨ s.length = 13 := by omega
    rw [e1 hl]
    exact ⟨by simp only [inR]; omega, by omega, trivial, main hl⟩
  · have hl : s.length = 8 ∨ s.length = 13 := by omega
    rw [e1 hl]
    exact ⟨by simp only [inR]; omega, by omega, trivial, main hl⟩
end Go.Eng
namespace Go.Eng
open Go.Proofs Go.RowKit
variable {C : Ctx} [C.Loose]
set_option maxRecDepth 20000
theorem nf_fold (n k : Int) (R : AV → List (Nat × AObj) → Prop) : wpFn te [] [] 0 Tryz.f35 [.int .i64 n, .int .i64 k] [] R = (letI z0 := (Int.tmod (IntKind.wrap IntKind.u64 n) (IntKind.wrap IntKind.u64 (max k (1 : Int)))); True ∧ True ∧ IntKind.wrap IntKind.u64 (max k (1 : Int)) ≠ (0 : Int) ∧ inR .i64 z0 ∧ R (.int .i64 z0) []) := by kernel_rfl
theorem nf_next (n : Nat) (v : Nat → Int) (a k : Int) (R : AV → List (Nat × AObj) → Prop) : wpFn te [] [] 0 Tryz.f42 [.ptr 0 0, .int .i64 k] [.cells [.view 1 n (intRow v), .int .i64 a] 27] R = (letI z1 := ([(0, .cells [.view 1 n (intRow v), .int .i64 (a + (1 : Int))] 27)] : List (Nat × AObj)); letI z0 := (IntKind.wrap IntKind.u64 (max k (1 : Int))); letI z3 := Int.tmod (IntKind.wrap IntKind.u64 0) z0; letI z2 := Int.tmod (IntKind.wrap IntKind.u64 (v (Int.toNat a))) z0; condP (decide (a < (↑n : Int))) (((0 : Int) ≤ a ∧ a < (↑n : Int) ∧ 1 = 1) ∧ inR .i64 (a + (1 : Int)) ∧ True ∧ True ∧ IntKind.wrap IntKind.u64 (max k (1 : Int)) ≠ (0 : Int) ∧ inR .i64 z2 ∧ R (.int .i64 z2) z1) (inR .i64 (a + (1 : Int)) ∧ True ∧ True ∧ IntKind.wrap IntKind.u64 (max k (1 : Int)) ≠ (0 : Int) ∧ inR .i64 z3 ∧ R (.int .i64 z3) z1)) := by kernel_rfl
theorem wrap_u64 (n : Int) : IntKind.wrap .u64 n = n % 18446744073709551616 := by
  show n % (2 : Int) ^ 64 = _
  rfl
theorem next_val {k : Int} (h : 1 ≤ k ∧ k ≤ 1000000) (x : Int) : IntKind.wrap .u64 (max k 1) ≠ 0 ∧ Int.tmod (IntKind.wrap .u64 x) (IntKind.wrap .u64 (max k 1)) = foldV x k := by
  have e : IntKind.wrap .u64 (max k 1) = k := by
    rw [wrap_u64, Int.max_eq_left h.1]
    omega
  rw [e, wrap_u64]
  have hx : 0 ≤ x % 18446744073709551616 := by omega
  rw [Int.tmod_eq_emod_of_nonneg hx]
  exact ⟨by omega, rfl⟩
theorem fold_ok (hP : C.P = Tryz.prog) : SpecOK C 35 S_fold := by
  have _ : C.Loose := inferInstance
  rintro args objs U Os vc h hvc
  unfold S_fold at h
  split at h <;> simp only [Option.some.injEq, Prod.mk.injEq, reduceCtorEq] at h
  rename_i n k
  obtain ⟨rfl, rfl, rfl⟩ := h
  refine SpecOK.wp0 (prg hP) [] 0 .nil (hP ▸ Tryz.func35) rfl rfl rfl ?_
  rw [nf_fold]
  obtain ⟨h1, h2⟩ := next_val hvc n
  have h3 := foldV_range hvc.1 n
  rw [h2]
  exact ⟨trivial, trivial, h1, by simp only [inR]; omega, rfl, rfl⟩
theorem next_ok (hP : C.P = Tryz.prog) : SpecOK C 42 S_next := by
  have _ : C.Loose := inferInstance
  rintro args objs U Os vc h hvc
  unfold S_next at h
  split at h <;> simp only [Option.some.injEq, Prod.mk.injEq, reduceCtorEq] at h
  rename_i k sz n f a t
  obtain ⟨rfl, rfl, rfl⟩ := h
  obtain ⟨rfl, rfl, hf, hk, ha⟩ := hvc
  rw [hf]
  have hv : vInt (intRow (vInt f)) = vInt f := rfl
  rw [hv]
  generalize vInt f = v at *
  refine SpecOK.wp0 (prg hP) [] 0 .nil (hP ▸ Tryz.func42) rfl rfl rfl ?_
  rw [nf_next]
  unfold nextV
  refine condP_dec (fun h => ?_) (fun h => ?_)
  · obtain ⟨h1, h2⟩ := next_val hk (v a.toNat)
    have h3 := foldV_range hk.1 (v a.toNat)
    rw [h2, decide_eq_true h]
    exact ⟨⟨by omega, by omega, rfl⟩, by simp only [inR]; omega, trivial, trivial, h1, by simp only [inR]; omega, rfl, rfl⟩
  · obtain ⟨h1, h2⟩ := next_val hk 0
    have h3 := foldV_range hk.1 0
    rw [h2, decide_eq_false h]
    exact ⟨by simp only [inR]; omega, trivial, trivial, h1, by simp only [inR]; omega, rfl, rfl⟩
theorem nf_id_round (V j : Nat) (P : Nat → Prop) (R : Exit → St → Prop) : roundP ⟨te, [], [], 0, 39, 0⟩ (loopB Tryz.f43 4) [3, 4, 5] [4] [] (S_idl V) P R (S_idl V j) = (letI z0 := (Int.tdiv (↑(pw V j) : Int) (10 : Int)); condP (decide ((0 : Int) ≤ (6 : Int) - (↑j : Int))) ((10 : Int) ≠ (0 : Int) ∧ inR .i64 ((48 : Int) + Int.tmod (↑(pw V j) : Int) (10 : Int)) ∧ inR .u8 ((48 : Int) + Int.tmod (↑(pw V j) : Int) (10 : Int)) ∧ ((0 : Int) ≤ (6 : Int) - (↑j : Int) ∧ (6 : Int) - (↑j : Int) < (↑7 : Int)) ∧ (List.length [AV.int .u8 ((48 : Int) + Int.tmod (↑(pw V j) : Int) (10 : Int))] = 1 ∧ Int.toNat ((6 : Int) - (↑j : Int)) < 7 ∧ 1 = 1) ∧ ((10 : Int) ≠ (0 : Int) ∧ inR .i64 z0) ∧ inR .i64 ((6 : Int) - (↑j : Int) - (1 : Int)) ∧ ∃ (i' : Nat), (TEq [(3, .int .i64 z0), (4, .own 0 7), (5, .int .i64 ((6 : Int) - (↑j : Int) - (1 : Int)))] [(3, .int .i64 (↑(pw V i') : Int)), (4, .own 0 7), (5, .int .i64 ((6 : Int) - (↑i' : Int)))] ∧ RowsEq [(0, .row 5 1 7 (fun (k : Nat) => if k = Int.toNat ((6 : Int) - (↑j : Int)) then [.int .u8 ((48 : Int) + Int.tmod (↑(pw V j) : Int) (10 : Int))] else [.int .u8 (bif decide (7 ≤ k + j) then dgI V k else (0 : Int))]) false)] [(0, .row 5 1 7 (fun (k : Nat) => [.int .u8 (bif decide (7 ≤ k + i') then dgI V k else (0 : Int))]) false)]) ∧ P i') ((∀ (i : Nat), i < 7 → true = true) ∧ ∃ (O' : List (Nat × AObj)), RowsEq [(0, .row 5 1 7 (fun (k : Nat) => [.int .u8 (bif decide (7 ≤ k + j) then dgI V k else (0 : Int))]) false)] O' ∧ R (.exit 0) (St.mk [(4, .own 0 7)] O' 1 []))) := by kernel_rfl
theorem nf_id (n : Int) (V : Nat) (R : AV → List (Nat × AObj) → Prop) : wpFn te [(35, .det S_fold), (98, .det S_checkDigit)] [(4, L_id V)] 2 Tryz.f43 [.int .i64 n] [] R = (letI z3 := (List.flatten (List.replicate (nat_lit 0) [.int .u8 0]) : List AV); letI z2 := cdF (bytesA 7 (idRow V)); letI z1 := TI.mk (TypeDesc.int IntKind.u8) 1 1 (Value.int IntKind.u8 0) false; letI z0 := (chunkA (TI.sz z1) (.int .u8 ((48 : Int) + Prod.fst z2) :: List.append [] z3)); ((1 : Int) ≤ (1000000 : Int) ∧ (1000000 : Int) ≤ (1000000 : Int)) ∧ inR .i64 ((1000000 : Int) + foldV n (1000000 : Int)) ∧ ((0 : Int) ≤ (7 : Int) ∧ (7 : Int) ≤ (7 : Int) ∧ (↑(TI.bytes z1) : Int) * (7 : Int) ≤ (281474976710656 : Int) ∧ (7 : Int) ≤ (9223372036854775807 : Int)) ∧ (TEq [(3, .int .i64 ((1000000 : Int) + foldV n (1000000 : Int))), (4, .own 0 7), (5, .int .i64 6)] [(3, .int .i64 (↑(pw V 0) : Int)), (4, .own 0 7), (5, .int .i64 ((6 : Int) - (↑0 : Int)))] ∧ RowsEq [(0, .row 5 1 7 (fun (_x : Nat) => [.int .u8 0]) false)] [(0, .row 5 1 7 (fun (k : Nat) => [.int .u8 (bif decide (7 ≤ k + 0) then dgI V k else (0 : Int))]) false)]) ∧ V < 2000000 ∧ ((7 ≤ 7 ∧ 1 = 1) ∧ ∀ (i : Nat), i < 7 → isU8 (idRow V i) = true) ∧ True ∧ ((7 ≤ 7 ∧ 1 = 1) ∧ ∀ (i : Nat), i < 7 → isU8 (idRow V i) = true) ∧ inR .i64 ((48 : Int) + Prod.fst z2) ∧ inR .u8 ((48 : Int) + Prod.fst z2) ∧ (1 ≤ 16777216 ∧ 1 = 1 ∧ 1 ≤ 9223372036854775807) ∧ ((1 ≤ 1 ∧ 1 = 1) ∧ ∀ (i : Nat), i < 1 → isU8 (chunkA (TI.sz z1) (.int .u8 ((48 : Int) + Prod.fst z2) :: List.append [] z3) i) = true) ∧ List.length (bytesA 7 (idRow V)) + List.length (bytesA 1 z0) ≤ 9223372036854775807 ∧ R (.str (bytesA 7 (idRow V) ++ bytesA 1 z0)) []) := by kernel_rfl
theorem pw_step (V j : Nat) : Int.tdiv (pw V j : Nat) 10 = (pw V (j + 1) : Nat) := by
  rw [Int.tdiv_eq_ediv_of_nonneg (Int.natCast_nonneg _)]
  unfold pw
  rw [Nat.pow_succ, ← Nat.div_div_eq_div_mul]
  rfl
theorem pw_le (V j : Nat) : pw V j ≤ V := Nat.div_le_self _ _
theorem id_loop (hP : C.P = Tryz.prog) (V : Nat) : LoopOK C 0 39 (loopC Tryz.f43 4) (L_id V) := by
  have _ : C.Loose := inferInstance
  rintro st Q ⟨h0, hv, hQ⟩
  refine LoopOK.mk (prg hP) [] 0 .nil [3, 4, 5] [4] [] (S_idl V) (fun j => j ≤ 7) (fun j => 7 - j) 0 (by omega) h0 (fun j hj => ?_) (fun i => ⟨fun _ _ => rfl, trivial⟩)
  rw [nf_id_round]
  have hle := pw_le V j
  have ht : Int.tmod (pw V j : Nat) 10 = ((pw V j % 10 : Nat) : Int) := by
    rw [Int.tmod_eq_emod_of_nonneg (Int.natCast_nonneg _)]; rfl
  rw [ht, pw_step]
  have hle' := pw_le V (j + 1)
  have hm := Nat.mod_lt (pw V j) (show 0 < 10 by omega)
  refine condP_dec (fun h => ?_) (fun h => ⟨fun _ _ => rfl, _, ?_, hQ⟩)
  · refine ⟨by omega, by simp only [inR]; omega, by simp only [inR]; omega, ⟨h, by omega⟩, ⟨rfl, by omega, rfl⟩, ⟨by omega, by simp only [inR]; omega⟩, by simp only [inR]; omega, j + 1, ⟨?_, ⟨rfl, rfl, rfl, rfl, rfl, fun k hk => ?_⟩, trivial⟩, by omega, by omega⟩
    · rw [show (6 : Int) - (j : Int) - 1 = 6 - ((j + 1 : Nat) : Int) by omega]
      rfl
    · dsimp only
      split
      · rename_i e
        have e' : 6 - k = j := by omega
        rw [decide_eq_true (show 7 ≤ k + (j + 1) by omega)]
        unfold dgI
        rw [e']; rfl
      · rename_i e
        by_cases h7 : 7 ≤ k + j
        · rw [decide_eq_true h7, decide_eq_true (show 7 ≤ k + (j + 1) by omega)]
        · rw [decide_eq_false h7, decide_eq_false (show ¬ 7 ≤ k + (j + 1) by omega)]
  · have : j = 7 := by omega
    subst this
    refine ⟨⟨rfl, rfl, rfl, rfl, rfl, fun k hk => ?_⟩, trivial⟩
    dsimp only
    rw [decide_eq_true (show 7 ≤ k + 7 by omega)]
    rfl
theorem id_ok (hP : C.P = Tryz.prog) : SpecOK C 43 S_id := by
  rintro args objs U Os vc h hvc
  unfold S_id at h
  split at h <;> simp only [Option.some.injEq, Prod.mk.injEq, reduceCtorEq] at h
  rename_i n
  obtain ⟨rfl, rfl, rfl⟩ := h
  refine SpecOK.wpL (prg hP) [(35, .det S_fold), (98, .det S_checkDigit)] [(4, L_id (idV n))] 2 (.cons (fold_ok hP) (.cons (cdR_ok hP) .nil)) (hP ▸ Tryz.func43) rfl rfl rfl [(loopC Tryz.f43 4, L_id (idV n))] (by kernel_rfl) ⟨id_loop hP _, trivial⟩ ?_
  rw [nf_id]
  have hf := foldV_range (show (1 : Int) ≤ 1000000 by omega) n
  have hV : ((idV n : Nat) : Int) = 1000000 + foldV n 1000000 := by unfold idV; omega
  have hl := id7_len n
  have hc := cdF_range (id7 n)
  refine ⟨⟨by omega, by omega⟩, by simp only [inR]; omega, ⟨by omega, by omega, by decide, by omega⟩, ⟨?_, ⟨rfl, rfl, rfl, rfl, rfl, fun k hk => ?_⟩, trivial⟩, by omega, ⟨⟨by omega, rfl⟩, fun _ _ => rfl⟩, trivial, ⟨⟨by omega, rfl⟩, fun _ _ => rfl⟩, ?_, ?_, ⟨by omega, rfl, by omega⟩, ⟨⟨by omega, rfl⟩, fun i hi => ?_⟩, ?_, rfl, rfl⟩
  · rw [← hV]
    show TEq [(3, .int .i64 ((idV n : Nat) : Int)), (4, .own 0 7), (5, .int .i64 6)] [(3, .int .i64 ((idV n / 1 : Nat) : Int)), (4, .own 0 7), (5, .int .i64 6)]
    rw [Nat.div_one]; rfl
  · dsimp only
    rw [decide_eq_false (show ¬ 7 ≤ k + 0 by omega)]; rfl
  · show inR .i64 (48 + (cdF (id7 n)).1)
    simp only [inR]; omega
  · show inR .u8 (48 + (cdF (id7 n)).1)
    simp only [inR]; omega
  · obtain rfl : i = 0 := by omega
    rfl
  · show (id7 n).length + _ ≤ _
    rw [hl]; simp [bytesA]
end Go.Eng
namespace Go.Eng
open Go.Proofs Go.RowKit
variable {C : Ctx} [C.Loose]
set_option maxRecDepth 20000
theorem nf_outlet (n : Nat) (v : Nat → Int) (a : Int) (R : AV → List (Nat × AObj) → Prop) : wpFn te [(42, .det S_next)] [] 0 Tryz.f80 [.ptr 0 0] [.cells [.view 1 n (intRow v), .int .i64 a] 27] R = ((3 ≤ 16777216 ∧ 1 = 1 ∧ 3 ≤ 9223372036854775807) ∧ (27 = 27 ∧ 1 = 1 ∧ intRow v = intRow (vInt (intRow v)) ∧ ((1 : Int) ≤ (3 : Int) ∧ (3 : Int) ≤ (1000000 : Int)) ∧ (0 : Int) ≤ a ∧ a ≤ (4611686018427387904 : Int)) ∧ ((0 : Int) ≤ nextV n (vInt (intRow v)) a (3 : Int) ∧ nextV n (vInt (intRow v)) a (3 : Int) < (↑3 : Int)) ∧ (Int.toNat (nextV n (vInt (intRow v)) a (3 : Int)) < 3 ∧ 1 = 1) ∧ R (.str (List.getD [[(111 : UInt8), 49], [(111 : UInt8), 50], [(112 : UInt8)]] (Int.toNat (nextV n (vInt (intRow v)) a (3 : Int))) [])) [(0, .cells [.view 1 n (intRow v), .int .i64 (a + (1 : Int))] 27)]) := by kernel_rfl
theorem nf_tproduct (n : Nat) (v : Nat → Int) (a : Int) (R : AV → List (Nat × AObj) → Prop) : wpFn te [(42, .det S_next), (43, .det S_id)] [] 0 Tryz.f81 [.ptr 0 0] [.cells [.view 1 n (intRow v), .int .i64 a] 27] R = ((27 = 27 ∧ 1 = 1 ∧ intRow v = intRow (vInt (intRow v)) ∧ ((1 : Int) ≤ (4 : Int) ∧ (4 : Int) ≤ (1000000 : Int)) ∧ (0 : Int) ≤ a ∧ a ≤ (4611686018427387904 : Int)) ∧ True ∧ R (.str (idF (nextV n (vInt (intRow v)) a (4 : Int)))) [(0, .cells [.view 1 n (intRow v), .int .i64 (a + (1 : Int))] 27)]) := by kernel_rfl
theorem outlet_ok (hP : C.P = Tryz.prog) : SpecOK C 80 S_outlet := by
  rintro args objs U Os vc h hvc
  unfold S_outlet at h
  split at h <;> simp only [Option.some.injEq, Prod.mk.injEq, reduceCtorEq] at h
  rename_i sz n f a t
  obtain ⟨rfl, rfl, rfl⟩ := h
  obtain ⟨rfl, rfl, hf, h1, h2⟩ := hvc
  rw [hf]
  generalize vInt f = v
  have hw : vInt (intRow v) = v := rfl
  refine SpecOK.wp0 (prg hP) [(42, .det S_next)] 0 (.cons (next_ok hP) .nil) (hP ▸ Tryz.func80) rfl rfl rfl ?_
  rw [nf_outlet]
  have r := nextV_range (show (1 : Int) ≤ 3 by omega) n v a
  exact ⟨⟨by omega, rfl, by omega⟩, ⟨rfl, rfl, rfl, ⟨by omega, by omega⟩, by omega, by omega⟩, ⟨r.1, r.2⟩, ⟨by rw [hw]; omega, rfl⟩, rfl, rfl⟩
theorem tproduct_ok (hP : C.P = Tryz.prog) : SpecOK C 81 S_product := by
  rintro args objs U Os vc h hvc
  unfold S_product at h
  split at h <;> simp only [Option.some.injEq, Prod.mk.injEq, reduceCtorEq] at h
  rename_i sz n f a t
  obtain ⟨rfl, rfl, rfl⟩ := h
  obtain ⟨rfl, rfl, hf, h1, h2⟩ := hvc
  rw [hf]
  generalize vInt f = v
  have hw : vInt (intRow v) = v := rfl
  refine SpecOK.wp0 (prg hP) [(42, .det S_next), (43, .det S_id)] 0 (.cons (next_ok hP) (.cons (id_ok hP) .nil)) (hP ▸ Tryz.func81) rfl rfl rfl ?_
  rw [nf_tproduct]
  exact ⟨⟨rfl, rfl, rfl, ⟨by omega, by omega⟩, by omega, by omega⟩, trivial, rfl, rfl⟩
theorem outF_ok : ∀ i, i < 3 → nameF (List.getD [[111, 49], [111, 50], [112]] i []) = true ∧ (List.getD [[111, 49], [111, 50], [112]] i ([] : List UInt8)).length ≤ 2 := by decide +kernel
end Go.Eng
