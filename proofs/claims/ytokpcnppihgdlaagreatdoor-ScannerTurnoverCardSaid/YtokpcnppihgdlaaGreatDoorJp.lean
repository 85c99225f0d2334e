/- Lemmas that the tied card of ScannerTurnover is proved by. -/
import Derived.Test.YtokpcnppihgdlaaGreatDoorJo
import Derived.Test.YtokpcnppihgdlaaGreatDoorJn
import Derived.Test.YtokpcnppihgdlaaGreatDoorJl
/- Find and Same: the loops' states. -/
namespace Go.Eng

/-- The first of k products with an ID; k if there is none. -/
def firstId (g : Nat → PR) (s : List UInt8) : Nat → Nat
  | 0 => 0
  | k + 1 => bif decide (firstId g s k < k) then firstId g s k else (bif decide ((g k).id = s) then k else k + 1)
def zeroPR : PR := ⟨[], [], [], 0, 0, 0, 0, fun _ => [], fun _ => []⟩
def fnd (g : Nat → PR) (s : List UInt8) (n : Nat) : PR := bif decide (firstId g s n < n) then g (firstId g s n) else zeroPR
def S_clone : Spec
  | [.view 2 n f], [] => some (.view 2 n f, [], 0 < n ∧ n ≤ 1000 ∧ f = atRow (nmOf f) (vlOf f))
  | _, _ => none
def S_fcl : Spec
  | [.agg [.str id, .str code, .str brand, .int .i64 d, .int .i64 c, .int .i64 q, .view 2 na h], .ptr 0 0], [.cells [.str s] t] => some (.bool (decide (id = s)), [(0, .cells [.str s] 9)], t = 9)
  | _, _ => none
def ixOf (g : Nat → PR) (s : List UInt8) (n : Nat) : Int := bif decide (firstId g s n < n) then (firstId g s n : Int) else -1
def S_ixf : Spec
  | [.own 0 n, .func 95 [.ptr 1 0]], [.row t 7 m f fr, .cells [.str s] t2] => some (.int .i64 (ixOf (prOf f) s n), [(0, .row 96 7 n f false), (1, .cells [.str s] 9)], t = 96 ∧ t2 = 9 ∧ fr = false ∧ n = m ∧ n ≤ 1000 ∧ f = pdRow (prOf f))
  | _, _ => none
def S_ix (g : Nat → PR) (s : List UInt8) (n k : Nat) : St := ⟨[(0, .own 0 n), (1, .func 95 [.ptr 1 0]), (7, .int .i64 n), (8, .int .i64 k)], [(0, .row 96 7 n (pdRow g) false), (1, .cells [.str s] 9)], 2, []⟩
def L_ix (g : Nat → PR) (s : List UInt8) (n : Nat) : LSpec := fun st Q => canonIs te 2 [0, 1, 7, 8] st (S_ix g s n 0) ∧ n ≤ 1000 ∧
  condP (decide (firstId g s n < n)) (Q .ret ⟨[(4, .int .i64 (firstId g s n))], [(0, .row 96 7 n (pdRow g) false), (1, .cells [.str s] 9)], 2, []⟩)
    (Q (.exit 0) ⟨[], [(0, .row 96 7 n (pdRow g) false), (1, .cells [.str s] 9)], 2, []⟩)
def S_find : Spec
  | [.own 0 n, .str s], [.row t 7 m f fr] => some (.tuple [.agg [.str (fnd (prOf f) s n).id, .str (fnd (prOf f) s n).code, .str (fnd (prOf f) s n).brand, .int .i64 (fnd (prOf f) s n).d, .int .i64 (fnd (prOf f) s n).c, .int .i64 (fnd (prOf f) s n).q, .view 2 (fnd (prOf f) s n).na (atRow (fnd (prOf f) s n).nm (fnd (prOf f) s n).vl)], .bool (decide (firstId (prOf f) s n < n))],
      [(0, .row 96 7 n f false)], t = 96 ∧ fr = false ∧ n = m ∧ n ≤ 1000 ∧ f = pdRow (prOf f) ∧ ∀ i, i < n → (prOf f i).Short)
  | _, _ => none
def S_fr (g : Nat → PR) (s : List UInt8) (n k : Nat) : St := ⟨[(1, .str s), (4, .ptr 1 0), (8, .own 0 n), (9, .int .i64 n), (10, .int .i64 k)], [(0, .row 96 7 n (pdRow g) false), (1, .cells [.str [], .str [], .str [], .int .i64 0, .int .i64 0, .int .i64 0, .nil] 96)], 2, []⟩
def L_fr (g : Nat → PR) (s : List UInt8) (n : Nat) : LSpec := fun st Q => canonIs te 1 [1, 4, 8, 9, 10] st (S_fr g s n 0) ∧ n ≤ 1000 ∧
  condP (decide (firstId g s n < n)) (Q .ret ⟨[(4, .ptr 1 0), (5, .bool true)], [(0, .row 96 7 n (pdRow g) false), (1, .cells [.str (g (firstId g s n)).id, .str (g (firstId g s n)).code, .str (g (firstId g s n)).brand, .int .i64 (g (firstId g s n)).d, .int .i64 (g (firstId g s n)).c, .int .i64 (g (firstId g s n)).q, .view 2 (g (firstId g s n)).na (atRow (g (firstId g s n)).nm (g (firstId g s n)).vl)] 96)], 2, []⟩)
    (Q (.exit 0) ⟨[(4, .ptr 1 0)], [(0, .row 96 7 n (pdRow g) false), (1, .cells [.str [], .str [], .str [], .int .i64 0, .int .i64 0, .int .i64 0, .nil] 96)], 2, []⟩)
def S_same : Spec
  | [.agg [.str id, .str code, .str brand, .int .i64 d, .int .i64 c, .int .i64 q, .view 2 n f], .agg [.str id', .str code', .str brand', .int .i64 d', .int .i64 c', .int .i64 q', .view 2 n' f']], [] => some (.bool true, [], id' = id ∧ code' = code ∧ brand' = brand ∧ d' = d ∧ c' = c ∧ q' = q ∧ n' = n ∧ f' = f ∧ n ≤ 1000 ∧ f = atRow (nmOf f) (vlOf f))
  | _, _ => none
def prL (p : PR) : List AV := [.str p.id, .str p.code, .str p.brand, .int .i64 p.d, .int .i64 p.c, .int .i64 p.q, .view 2 p.na (atRow p.nm p.vl)]
def S_sm (p : PR) (k : Nat) : St := ⟨[(2, .ptr 0 0), (3, .ptr 1 0), (43, .int .i64 p.na), (44, .int .i64 k)], [(0, .cells [.str p.id, .str p.code, .str p.brand, .int .i64 p.d, .int .i64 p.c, .int .i64 p.q, .view 2 p.na (atRow p.nm p.vl)] 96), (1, .cells [.str p.id, .str p.code, .str p.brand, .int .i64 p.d, .int .i64 p.c, .int .i64 p.q, .view 2 p.na (atRow p.nm p.vl)] 96)], 2, []⟩
def L_sm (p : PR) : LSpec := fun st Q => canonIs te 0 [2, 3, 43, 44] st (S_sm p 0) ∧ p.na ≤ 1000 ∧ Q (.exit 0) ⟨[], [], 0, []⟩
end Go.Eng
/- Turnovers by product: plain lists. -/
namespace Go.Eng

def addP : List (List UInt8 × Int) → List UInt8 → Int → List (List UInt8 × Int)
  | [], p, v => [(p, v)]
  | x :: l, p, v => bif decide (x.1 = p) then (x.1, x.2 + v) :: l else x :: addP l p v
def getP : List (List UInt8 × Int) → List UInt8 → Int
  | [], _ => 0
  | x :: l, p => bif decide (x.1 = p) then x.2 else getP l p
def atP (L : List (List UInt8 × Int)) (i : Nat) : List UInt8 × Int := L.getD i ([], 0)
/-- The turnover of a day's products. -/
def tvL (g : Nat → RW) (d : Int) : Nat → List (List UInt8 × Int)
  | 0 => []
  | k + 1 => bif decide ((g k).per = d) then addP (tvL g d k) (g k).p (g k).tv else tvL g d k
def sumK (φ : List UInt8 → Bool) : List (List UInt8 × Int) → Int
  | [] => 0
  | x :: l => (bif φ x.1 then x.2 else 0) + sumK φ l
def covS (φ : List UInt8 → Bool) (g : Nat → RW) (d : Int) : Nat → Int
  | 0 => 0
  | k + 1 => covS φ g d k + bif decide ((g k).per = d) && φ (g k).p then (g k).tv else 0
theorem sumK_addP (φ : List UInt8 → Bool) (p : List UInt8) (v : Int) : ∀ L, sumK φ (addP L p v) = sumK φ L + bif φ p then v else 0
  | [] => by simp [addP, sumK]
  | x :: l => by
    rw [addP]
    by_cases h : x.1 = p
    · rw [decide_eq_true h]
      show (bif φ x.1 then x.2 + v else 0) + sumK φ l = (bif φ x.1 then x.2 else 0) + sumK φ l + _
      rw [h]
      cases φ p <;> simp <;> omega
    · rw [decide_eq_false h]
      show (bif φ x.1 then x.2 else 0) + sumK φ (addP l p v) = (bif φ x.1 then x.2 else 0) + sumK φ l + _
      rw [sumK_addP φ p v l]
      omega
theorem sumK_tvL (φ : List UInt8 → Bool) (g : Nat → RW) (d : Int) : ∀ n, sumK φ (tvL g d n) = covS φ g d n
  | 0 => rfl
  | n + 1 => by
    rw [tvL, covS, ← sumK_tvL φ g d n]
    by_cases h : (g n).per = d
    · rw [decide_eq_true h]
      show sumK φ (addP _ _ _) = _
      rw [sumK_addP]; rfl
    · rw [decide_eq_false h]
      show sumK φ (tvL g d n) = sumK φ (tvL g d n) + 0
      omega
theorem sumK_perm (φ : List UInt8 → Bool) {l l' : List (List UInt8 × Int)} (h : l.Perm l') : sumK φ l = sumK φ l' := by
  induction h with
  | nil => rfl
  | cons _ _ ih => rw [sumK, sumK, ih]
  | swap => simp only [sumK]; omega
  | trans _ _ h1 h2 => exact h1.trans h2
theorem sumK_pos (φ : List UInt8 → Bool) : ∀ {l : List (List UInt8 × Int)}, (∀ x ∈ l, 0 ≤ x.2) → 0 ≤ sumK φ l
  | [], _ => Int.le_refl _
  | x :: l, h => by
    have := sumK_pos φ (l := l) fun y hy => h y (List.mem_cons_of_mem _ hy)
    have := h x (List.mem_cons_self ..)
    rw [sumK]
    cases φ x.1 <;> simp <;> omega
theorem addP_keys (p : List UInt8) (v : Int) : ∀ (L : List (List UInt8 × Int)) (x : List UInt8), x ∈ (addP L p v).map Prod.fst → x ∈ L.map Prod.fst ∨ x = p
  | [], x, h => by simpa [addP] using h
  | y :: l, x, h => by
    rw [addP] at h
    by_cases e : y.1 = p
    · rw [decide_eq_true e] at h
      exact .inl h
    · rw [decide_eq_false e] at h
      rcases List.mem_cons.1 h with h | h
      · exact .inl (by rw [h]; exact List.mem_cons_self ..)
      · rcases addP_keys p v l x h with h | h
        · exact .inl (List.mem_cons_of_mem _ h)
        · exact .inr h
theorem addP_nodup (p : List UInt8) (v : Int) : ∀ {L : List (List UInt8 × Int)}, (L.map Prod.fst).Nodup → ((addP L p v).map Prod.fst).Nodup
  | [], _ => by simp [addP]
  | y :: l, h => by
    obtain ⟨h1, h2⟩ := List.nodup_cons.1 (show (y.1 :: l.map Prod.fst).Nodup from h)
    rw [addP]
    by_cases e : y.1 = p
    · rw [decide_eq_true e]; exact h
    · rw [decide_eq_false e]
      refine List.nodup_cons.2 ⟨fun q => ?_, addP_nodup p v h2⟩
      rcases addP_keys p v l y.1 q with q | q
      · exact h1 q
      · exact e q
theorem tvL_nodup (g : Nat → RW) (d : Int) : ∀ n, ((tvL g d n).map Prod.fst).Nodup
  | 0 => by simp [tvL]
  | n + 1 => by
    rw [tvL]
    cases decide ((g n).per = d) with
    | true => exact addP_nodup _ _ (tvL_nodup g d n)
    | false => exact tvL_nodup g d n
theorem addP_pos {p : List UInt8} {v : Int} (hv : 0 ≤ v) : ∀ {L : List (List UInt8 × Int)}, (∀ x ∈ L, 0 ≤ x.2) → ∀ x ∈ addP L p v, 0 ≤ x.2
  | [], _, x, h => by obtain rfl : x = (p, v) := by simpa [addP] using h
                      exact hv
  | y :: l, hl, x, h => by
    rw [addP] at h
    have hy := hl y (List.mem_cons_self ..)
    by_cases e : y.1 = p
    · rw [decide_eq_true e] at h
      rcases List.mem_cons.1 h with h | h
      · rw [h]; show 0 ≤ y.2 + v; omega
      · exact hl x (List.mem_cons_of_mem _ h)
    · rw [decide_eq_false e] at h
      rcases List.mem_cons.1 h with h | h
      · rw [h]; exact hy
      · exact addP_pos hv (fun z hz => hl z (List.mem_cons_of_mem _ hz)) x h
theorem tvL_pos {g : Nat → RW} (d : Int) : ∀ {n : Nat}, (∀ i, i < n → 0 ≤ (g i).tv) → ∀ x ∈ tvL g d n, 0 ≤ x.2
  | 0, _, _, h => by cases h
  | n + 1, hg, x, h => by
    rw [tvL] at h
    have ih := tvL_pos (g := g) d (n := n) fun i hi => hg i (by omega)
    cases e : decide ((g n).per = d) with
    | true => rw [e] at h; exact addP_pos (hg n (by omega)) ih x h
    | false => rw [e] at h; exact ih x h
theorem covS_le {g : Nat → RW} {B : Int} (φ : List UInt8 → Bool) (d : Int) : ∀ {n : Nat}, (∀ i, i < n → 0 ≤ (g i).tv ∧ (g i).tv ≤ B) → 0 ≤ covS φ g d n ∧ covS φ g d n ≤ B * n
  | 0, _ => by simp [covS]
  | n + 1, h => by
    have ih := covS_le (g := g) φ d (n := n) fun i hi => h i (by omega)
    have h0 := h n (by omega)
    have e : B * ((n + 1 : Nat) : Int) = B * n + B := by rw [Int.natCast_add, Int.mul_add]; simp
    rw [e, covS]
    cases decide ((g n).per = d) && φ (g n).p with
    | true => show 0 ≤ _ + (g n).tv ∧ _ + (g n).tv ≤ _; omega
    | false => show 0 ≤ _ + 0 ∧ _ + 0 ≤ _; omega
/-- What a product has is no more than what all have. -/
theorem getP_le (φ : List UInt8 → Bool) (p : List UInt8) : ∀ {L : List (List UInt8 × Int)}, (∀ x ∈ L, 0 ≤ x.2) → 0 ≤ getP L p ∧ getP L p ≤ sumK (fun _ => true) L
  | [], _ => by simp [getP, sumK]
  | x :: l, h => by
    have h1 := sumK_pos (fun _ => true) (l := l) fun y hy => h y (List.mem_cons_of_mem _ hy)
    have ih := getP_le φ p (L := l) fun y hy => h y (List.mem_cons_of_mem _ hy)
    have h0 := h x (List.mem_cons_self ..)
    rw [getP, sumK]
    cases decide (x.1 = p) with
    | true => show 0 ≤ x.2 ∧ x.2 ≤ x.2 + _; omega
    | false => show 0 ≤ getP l p ∧ getP l p ≤ x.2 + _; omega
theorem atP_all (L : List (List UInt8 × Int)) : (List.range L.length).map (atP L) = L := by
  apply List.ext_getElem
  · simp
  · intro i h1 h2
    simp [atP, h2]
end Go.Eng
/- Find and Same over catalogs that are data: the loops' states. -/
namespace Go.Eng
def S_ixfV : Spec
  | [.view 7 n f, .func 95 [.ptr 0 0]], [.cells [.str s] t2] => some (.int .i64 (ixOf (prOf f) s n), [(0, .cells [.str s] 9)], t2 = 9 ∧ n ≤ 1000 ∧ f = pdRow (prOf f))
  | _, _ => none
def S_ixV (g : Nat → PR) (s : List UInt8) (n k : Nat) : St := ⟨[(0, .view 7 n (pdRow g)), (1, .func 95 [.ptr 0 0]), (7, .int .i64 n), (8, .int .i64 k)], [(0, .cells [.str s] 9)], 1, []⟩
def L_ixV (g : Nat → PR) (s : List UInt8) (n : Nat) : LSpec := fun st Q => canonIs te 1 [0, 1, 7, 8] st (S_ixV g s n 0) ∧ n ≤ 1000 ∧
  condP (decide (firstId g s n < n)) (Q .ret ⟨[(4, .int .i64 (firstId g s n))], [(0, .cells [.str s] 9)], 1, []⟩)
    (Q (.exit 0) ⟨[], [(0, .cells [.str s] 9)], 1, []⟩)
def S_findV : Spec
  | [.view 7 n f, .str s], [] => some (.tuple [.agg [.str (fnd (prOf f) s n).id, .str (fnd (prOf f) s n).code, .str (fnd (prOf f) s n).brand, .int .i64 (fnd (prOf f) s n).d, .int .i64 (fnd (prOf f) s n).c, .int .i64 (fnd (prOf f) s n).q, .view 2 (fnd (prOf f) s n).na (atRow (fnd (prOf f) s n).nm (fnd (prOf f) s n).vl)], .bool (decide (firstId (prOf f) s n < n))],
      [], n ≤ 1000 ∧ f = pdRow (prOf f) ∧ ∀ i, i < n → (prOf f i).Short)
  | _, _ => none
def S_frV (g : Nat → PR) (s : List UInt8) (n k : Nat) : St := ⟨[(1, .str s), (4, .ptr 0 0), (8, .view 7 n (pdRow g)), (9, .int .i64 n), (10, .int .i64 k)], [(0, .cells [.str [], .str [], .str [], .int .i64 0, .int .i64 0, .int .i64 0, .nil] 96)], 1, []⟩
def L_frV (g : Nat → PR) (s : List UInt8) (n : Nat) : LSpec := fun st Q => canonIs te 0 [1, 4, 8, 9, 10] st (S_frV g s n 0) ∧ n ≤ 1000 ∧
  condP (decide (firstId g s n < n)) (Q .ret ⟨[(4, .ptr 0 0), (5, .bool true)], [(0, .cells [.str (g (firstId g s n)).id, .str (g (firstId g s n)).code, .str (g (firstId g s n)).brand, .int .i64 (g (firstId g s n)).d, .int .i64 (g (firstId g s n)).c, .int .i64 (g (firstId g s n)).q, .view 2 (g (firstId g s n)).na (atRow (g (firstId g s n)).nm (g (firstId g s n)).vl)] 96)], 1, []⟩)
    (Q (.exit 0) ⟨[(4, .ptr 0 0)], [(0, .cells [.str [], .str [], .str [], .int .i64 0, .int .i64 0, .int .i64 0, .nil] 96)], 1, []⟩)
end Go.Eng
/- Turnovers and coverage: the loops' states. -/
namespace Go.Eng

def entP (L : List (List UInt8 × Int)) : List (AV × AV) := L.map fun x => (.str x.1, .int .i64 x.2)
def tvF (g : Nat → RW) (d : Int) (n : Nat) : List (List UInt8 × Int) := bif decide (svF g n = 0) then tvL g d n else []
def S_turn : Spec
  | [.view 5 n f, .int .i64 d], [] => some (.map 0, [(0, .amap (entP (tvF (rwOf f) d n)))], n ≤ 1000000 ∧ f = rwRow (rwOf f) ∧ ∀ i, i < n → (rwOf f i).o.length < 4294967281)
  | _, _ => none
def S_tv (g : Nat → RW) (d : Int) (n k : Nat) : St := ⟨[(1, .int .i64 d), (5, .map 0), (13, .view 5 n (rwRow g)), (14, .int .i64 n), (15, .int .i64 k)], [(0, .amap (entP (tvL g d k)))], 1, []⟩
def L_tv (g : Nat → RW) (d : Int) (n : Nat) : LSpec := fun st Q => canonIs te 0 [1, 5, 13, 14, 15] st (S_tv g d n 0) ∧ n ≤ 24000 ∧ (∀ i, i < n → rowF (g i) = true) ∧ Q (.exit 0) ⟨[(5, .map 0)], [(0, .amap (entP (tvL g d n)))], 1, []⟩
/-- Does the catalog have the product? -/
def knownF (h : Nat → PR) (m : Nat) (s : List UInt8) : Bool := decide (firstId h s m < m)
def cov1 (g : Nat → RW) (n : Nat) (h : Nat → PR) (m : Nat) (d : Int) : Int := bif decide (svF g n = 0) then covS (knownF h m) g d n else 0
def cov2 (g : Nat → RW) (n : Nat) (d : Int) : Int := bif decide (svF g n = 0) then covS (fun _ => true) g d n else 0
def S_cov : Spec
  | [.view 5 n f, .view 7 m h, .int .i64 d], [] => some (.tuple [.int .i64 (cov1 (rwOf f) n (prOf h) m d), .int .i64 (cov2 (rwOf f) n d)], [],
      (n ≤ 1000000 ∧ f = rwRow (rwOf f) ∧ ∀ i, i < n → (rwOf f i).o.length < 4294967281) ∧ m ≤ 1000 ∧ h = pdRow (prOf h) ∧ ∀ i, i < m → (prOf h i).Short)
  | _, _ => none
structure CT where
  a : Int
  b : Int
  c0 : Nat
  left : List Nat
def S_co (L : List (List UInt8 × Int)) (h : Nat → PR) (m : Nat) (i : CT) : St := ⟨[(1, .view 7 m (pdRow h)), (8, .int .i64 i.a), (9, .int .i64 i.b), (17, .ptr 0 0)],
  [(0, .miter 1 (entP L).length (98 :: i.c0 :: i.left)), (1, .amap (entP L))], 2, []⟩
def L_co (L : List (List UInt8 × Int)) (h : Nat → PR) (m : Nat) : LSpec := fun st Q => canonIs te 0 [1, 8, 9, 17] st (S_co L h m ⟨0, 0, (entP L).length, List.range (entP L).length⟩) ∧
  (L.map Prod.fst).Nodup ∧ (∀ x ∈ L, 0 ≤ x.2) ∧ sumK (fun _ => true) L ≤ 26388279066624000 ∧ (m ≤ 1000 ∧ ∀ i, i < m → (h i).Short) ∧
  Q (.exit 0) ⟨[(8, .int .i64 (sumK (knownF h m) L)), (9, .int .i64 (sumK (fun _ => true) L))], [], 0, []⟩
def S_cR (g : Nat → RW) (h : Nat → PR) (n m : Nat) (d : Int) (k : Nat) : St := ⟨[(1, .view 7 m (pdRow h)), (2, .int .i64 d), (8, .int .i64 (covS (knownF h m) g d k)), (9, .int .i64 (covS (fun _ => true) g d k)), (17, .view 5 n (rwRow g)), (18, .int .i64 n), (19, .int .i64 k)], [], 0, []⟩
def L_cR (g : Nat → RW) (h : Nat → PR) (n m : Nat) (d : Int) : LSpec := fun st Q => canonIs te 0 [1, 2, 8, 9, 17, 18, 19] st (S_cR g h n m d 0) ∧ n ≤ 24000 ∧ (∀ i, i < n → rowF (g i) = true) ∧ (m ≤ 1000 ∧ ∀ i, i < m → (h i).Short) ∧
  Q (.exit 0) ⟨[(8, .int .i64 (covS (knownF h m) g d n)), (9, .int .i64 (covS (fun _ => true) g d n))], [], 0, []⟩
/-- Coverage with no catalog. -/
def S_covN : Spec
  | [.view 5 n f, .nil, .int .i64 d], [] => some (.tuple [.int .i64 (cov1 (rwOf f) n (fun _ => zeroPR) 0 d), .int .i64 (cov2 (rwOf f) n d)], [], n ≤ 1000000 ∧ f = rwRow (rwOf f) ∧ ∀ i, i < n → (rwOf f i).o.length < 4294967281)
  | _, _ => none
def S_turnover : Spec
  | [.view 5 n f, .int .i64 d], [] => some (.int .i64 (cov2 (rwOf f) n d), [], n ≤ 1000000 ∧ f = rwRow (rwOf f) ∧ ∀ i, i < n → (rwOf f i).o.length < 4294967281)
  | _, _ => none
end Go.Eng
/- The reference's Combine: the loops' states. -/
namespace Go.Eng

def S_slotR : Spec
  | [.str o, .str p, .int .i64 per], [] => some (.bool (slotF o p per), [], o.length < 4294967281)
  | _, _ => none
def S_period : Spec
  | [.int .i64 p], [] => some (.bool (decide (0 ≤ p) && decide (p ≤ 5999)), [], True)
  | _, _ => none
def S_before : Spec
  | [.agg [.str o, .str p, .int .i64 per, .int .i64 u, .int .i64 tv], .agg [.str o', .str p', .int .i64 per', .int .i64 u', .int .i64 tv']], [] => some (.bool (decide (keyC ⟨o, p, per, u, tv⟩ ⟨o', p', per', u', tv'⟩ < 0)), [], True)
  | _, _ => none
def S_rv (g : Nat → RW) (n k : Nat) : St := ⟨[(8, .view 5 n (rwRow g)), (9, .int .i64 n), (10, .int .i64 k)], [], 0, []⟩
def L_rv (g : Nat → RW) (n : Nat) : LSpec := fun st Q => canonIs te 0 [8, 9, 10] st (S_rv g n 0) ∧ n ≤ 24000 ∧ (∀ i, i < n → (g i).o.length < 4294967281) ∧
  condP (allRows g n) (Q (.exit 0) ⟨[], [], 0, []⟩) (Q .ret ⟨[(2, .int .i64 131)], [], 0, []⟩)
structure RX where
  k : Nat
  L : List RW
/-- The place of a row in a list that ascends. -/
def plc : List RW → RW → Nat
  | [], _ => 0
  | x :: l, r => bif decide (keyC x r < 0) then plc l r + 1 else 0
def S_rc (g : Nat → RW) (n : Nat) (i : RX) : St := ⟨[(5, .own 0 i.L.length), (15, .view 5 n (rwRow g)), (16, .int .i64 n), (17, .int .i64 i.k)], [(0, .row 39 5 i.L.length (rwRow (atR i.L)) false)], 1, []⟩
def S_rj (g : Nat → RW) (n len : Nat) (h : Nat → RW) (x : RW) (k a : Nat) : St := ⟨[(5, .own 0 len), (7, .ptr 1 0), (8, .int .i64 a), (15, .view 5 n (rwRow g)), (16, .int .i64 n), (17, .int .i64 k)],
  [(0, .row 39 5 len (rwRow h) false), (1, .cells [.str x.o, .str x.p, .int .i64 x.per, .int .i64 x.u, .int .i64 x.tv] 39)], 2, []⟩
def S_ri (g : Nat → RW) (n : Nat) (i : RX) (a : Nat) : St := S_rj g n i.L.length (atR i.L) (g i.k) i.k a
def L_ri (g : Nat → RW) (n : Nat) (i : RX) : LSpec := fun st Q => canonIs te 0 [5, 7, 8, 15, 16, 17] st (S_ri g n i 0) ∧ i.L.length ≤ 24000 ∧
  Q (.exit 2) (S_rj g n i.L.length (atR i.L) (g i.k) i.k (plc i.L (g i.k)))
def setU (h : Nat → RW) (a : Nat) (x : RW) (j : Nat) : RW := if j = a then ⟨(h a).o, (h a).p, (h a).per, (h a).u + x.u, (h a).tv⟩ else h j
def setT (h : Nat → RW) (a : Nat) (x : RW) (j : Nat) : RW := if j = a then ⟨(h a).o, (h a).p, (h a).per, (h a).u, (h a).tv + x.tv⟩ else h j
def L_r12 (g : Nat → RW) (n len : Nat) (h : Nat → RW) (x : RW) (k a : Nat) : LSpec := fun st Q => canonIs te 0 [5, 7, 8, 15, 16, 17] st (S_rj g n len h x k a) ∧ a < len ∧ inR .i64 ((h a).u + x.u) ∧ Q .normal (S_rj g n len (setU h a x) x k a)
def L_r13 (g : Nat → RW) (n len : Nat) (h : Nat → RW) (x : RW) (k a : Nat) : LSpec := fun st Q => canonIs te 0 [5, 7, 8, 15, 16, 17] st (S_rj g n len h x k a) ∧ a < len ∧ inR .i64 ((h a).tv + x.tv) ∧ Q .normal (S_rj g n len (setT h a x) x k a)
def L_rc (g : Nat → RW) (n : Nat) : LSpec := fun st Q => canonIs te 0 [5, 15, 16, 17] (ownNil 5 39 5 st) (S_rc g n ⟨0, []⟩) ∧ n ≤ 24000 ∧ (∀ i, i < n → rowF (g i) = true) ∧
  Q (.exit 0) ⟨[(5, .own 0 (srtR (sumsF g n)).length)], [(0, .row 39 5 (srtR (sumsF g n)).length (rwRow (atR (srtR (sumsF g n)))) false)], 1, []⟩
/-- Are two lists of rows the same? -/
def eqRows (g h : Nat → RW) : Nat → Bool
  | 0 => true
  | k + 1 => eqRows g h k && (decide ((g k).o = (h k).o) && (decide ((g k).p = (h k).p) && (decide ((g k).per = (h k).per) && (decide ((g k).u = (h k).u) && decide ((g k).tv = (h k).tv)))))
def S_same13 : Spec
  | [.view 5 n f, .view 5 m h], [] => some (.bool (decide (n = m) && eqRows (rwOf f) (rwOf h) n), [], n ≤ 1000000 ∧ f = rwRow (rwOf f) ∧ h = rwRow (rwOf h))
  | _, _ => none
def S_sr (g h : Nat → RW) (n k : Nat) : St := ⟨[(0, .view 5 n (rwRow g)), (1, .view 5 n (rwRow h)), (12, .int .i64 n), (13, .int .i64 k)], [], 0, []⟩
def L_sr (g h : Nat → RW) (n : Nat) : LSpec := fun st Q => canonIs te 0 [0, 1, 12, 13] st (S_sr g h n 0) ∧ n ≤ 1000000 ∧
  condP (eqRows g h n) (Q (.exit 0) ⟨[], [], 0, []⟩) (Q .ret ⟨[(4, .bool false)], [], 0, []⟩)
end Go.Eng
/- The laws of scanner rows: the loops' states. -/
namespace Go.Eng

/-- Rows of a tape: right, with small numbers. -/
structure RW.Made (r : RW) : Prop where
  ok : rowF r = true
  o : r.o.length ≤ 2
  u : 1 ≤ r.u ∧ r.u ≤ 20
  tv : 1 ≤ r.tv ∧ r.tv ≤ 2400
structure RwS where
  c : Nat
  g : Nat → RW
  a : Int
def RW.put (g : Nat → RW) (k : Nat) (r : RW) (i : Nat) : RW := if i < k then g i else r
def S_rws (n : Nat) (v : Nat → Int) (N : Int) (i : RwS) : St := ⟨[(0, .ptr 0 0), (5, .own 1 i.c), (9, .int .i64 N), (10, .int .i64 i.c)],
  [(0, .cells [.view 1 n (intRow v), .int .i64 i.a] 28), (1, .row 39 5 i.c (rwRow i.g) false)], 2, []⟩
def L_rws (n : Nat) (v : Nat → Int) (a N : Int) : LSpec := fun st Q => canonIs te 1 [0, 5, 9, 10] (ownNil 5 39 5 st) (S_rws n v N ⟨0, fun _ => default, a⟩) ∧ (0 ≤ N ∧ N ≤ 100) ∧ (0 ≤ a ∧ a ≤ 4611686018427375000) ∧
  ∀ i : RwS, i.c = N.toNat → i.a = a + 6 * i.c → (∀ j, j < i.c → (i.g j).Made) → Q (.exit 0) ⟨[(5, .own 1 i.c)], [(0, .cells [.view 1 n (intRow v), .int .i64 i.a] 28), (1, .row 39 5 i.c (rwRow i.g) false)], 2, []⟩
def R_rows : RSpec
  | [.ptr 0 0, .int .i64 most], [.cells [.view sz n f, .int .i64 a] t], R => t = 28 ∧ sz = 1 ∧ f = intRow (vInt f) ∧ (0 ≤ a ∧ a ≤ 4611686018427370000) ∧ (0 ≤ most ∧ most ≤ 90) ∧
      ∀ (c : Nat) (g : Nat → RW) (a' : Int), c ≤ most.toNat → (a ≤ a' ∧ a' ≤ a + 600) → (∀ j, j < c → (g j).Made) →
      R (.own 1 c) [(0, .cells [.view 1 n f, .int .i64 a'] 28), (1, .row 39 5 c (rwRow g) false)]
  | _, _, _ => False
/-- Rows cut short. -/
def cutR (g : Nat → RW) (i : Nat) : RW := ⟨(g i).o.take 30, (g i).p.take 30, (g i).per, (g i).u, (g i).tv⟩
def S_rw13 (g : Nat → RW) (n k : Nat) : St := ⟨[(3, .own 0 k), (10, .view 5 n (rwRow g)), (11, .int .i64 n), (12, .int .i64 k)], [(0, .row 39 5 k (rwRow (cutR g)) false)], 1, []⟩
def L_rw13 (g : Nat → RW) (n : Nat) : LSpec := fun st Q => canonIs te 0 [3, 10, 11, 12] (ownNil 3 39 5 st) (S_rw13 g n 0) ∧ n ≤ 15 ∧ Q (.exit 0) ⟨[(3, .own 0 n)], [(0, .row 39 5 n (rwRow (cutR g)) false)], 1, []⟩
def S_raw13 : Spec
  | [.view 5 n f], [] => some (.view 5 (min n 15) (rwRow (cutR (rwOf f))), [], f = rwRow (rwOf f))
  | _, _ => none
/-- Made rows with at most one fault: some rows with short names. -/
def R_sp13 : RSpec
  | [.ptr 0 0], [.cells [.view sz n f, .int .i64 a] t], R => t = 28 ∧ sz = 1 ∧ f = intRow (vInt f) ∧ (0 ≤ a ∧ a ≤ 4611686018427360000) ∧
      ∀ (c : Nat) (g : Nat → RW) (a' : Int), c ≤ 12 → (a ≤ a' ∧ a' ≤ a + 700) → (∀ j, j < c → (g j).o.length ≤ 30) →
      R (.view 5 c (rwRow g)) [(0, .cells [.view 1 n f, .int .i64 a'] 28)]
  | _, _, _ => False
/-- Combine, handed a row of our own. -/
def S_combO : Spec
  | [.own 0 n], [.row t 5 m f fr] => some (.tuple [.view 5 (combL (rwOf f) n).length (rwRow (atR (combL (rwOf f) n))), .int .i64 (svF (rwOf f) n)], [], n = m ∧ n ≤ 1000000 ∧ (∀ i, i < n → f i = rwRow (rwOf f) i) ∧ ∀ i, i < n → (rwOf f i).o.length < 4294967281)
  | _, _ => none
def S_awake13 : Spec
  | [], [] => some (.bool true, [], True)
  | _, _ => none
end Go.Eng
/- The laws of scanner rows: more states. -/
namespace Go.Eng

def R_trow0 : RSpec
  | [.ptr 0 0], [.cells [.nil, .int .i64 a] t], R => t = 28 ∧ (0 ≤ a ∧ a ≤ 4611686018427380000) ∧
      ∀ r : RW, r.Made → R (.agg [.str r.o, .str r.p, .int .i64 r.per, .int .i64 r.u, .int .i64 r.tv]) [(0, .cells [.view 1 0 (intRow fun _ => 0), .int .i64 (a + 1 + 1 + 1 + 1 + 1 + 1)] 28)]
  | _, _, _ => False
def zeroR : RW := ⟨[], [], 0, 0, 0⟩
def fillR (r : RW) (k j : Nat) : RW := if j < k then r else zeroR
def S_mn (r : RW) (n k : Nat) : St := ⟨[(4, .int .i64 n), (5, .ptr 0 0), (6, .own 1 n), (20, .own 1 n), (21, .int .i64 n), (22, .int .i64 k)],
  [(0, .cells [.str r.o, .str r.p, .int .i64 r.per, .int .i64 r.u, .int .i64 r.tv] 39), (1, .row 39 5 n (rwRow (fillR r k)) false)], 2, []⟩
def L_mn (n : Nat) : LSpec := fun st Q => ∃ r : RW, canonIs te 0 [4, 5, 6, 20, 21, 22] st (S_mn r n 0) ∧ r.Made ∧ n ≤ 100000 ∧
  Q (.exit 0) ⟨[(4, .int .i64 n), (5, .ptr 0 0), (6, .view 5 n (rwRow (fillR r n)))], [(0, .cells [.str r.o, .str r.p, .int .i64 r.per, .int .i64 r.u, .int .i64 r.tv] 39)], 2, []⟩
/-- Sums of the first k. -/
def sU (g : Nat → RW) : Nat → Int
  | 0 => 0
  | k + 1 => sU g k + (g k).u
def sT (g : Nat → RW) : Nat → Int
  | 0 => 0
  | k + 1 => sT g k + (g k).tv
def revR (g : Nat → RW) (c j : Nat) : RW := g (c - 1 - j)
def S_ad1 (g : Nat → RW) (c k : Nat) : St := ⟨[(4, .own 0 c), (5, .own 1 k), (6, .int .i64 (sU g k)), (7, .int .i64 (sT g k)), (22, .own 0 c), (23, .int .i64 c), (24, .int .i64 k)],
  [(0, .row 39 5 c (rwRow g) false), (1, .row 39 5 k (rwRow (revR g c)) false)], 2, []⟩
def L_ad1 : LSpec := fun st Q => ∃ (c : Nat) (g : Nat → RW), canonIs te 0 [4, 5, 6, 7, 22, 23, 24] (ownNil 5 39 5 st) (S_ad1 g c 0) ∧ c ≤ 14 ∧ (∀ i, i < c → (g i).Made) ∧
  Q (.exit 0) ⟨[(4, .own 0 c), (5, .own 1 c), (6, .int .i64 (sU g c)), (7, .int .i64 (sT g c))], [(0, .row 39 5 c (rwRow g) false), (1, .row 39 5 c (rwRow (revR g c)) false)], 2, []⟩
def S_ad2 (U T : Int) (L : List RW) (k : Nat) : St := ⟨[(6, .int .i64 (U - sU (atR L) k)), (7, .int .i64 (T - sT (atR L) k)), (10, .view 5 L.length (rwRow (atR L))), (71, .view 5 L.length (rwRow (atR L))), (72, .int .i64 L.length), (73, .int .i64 k)], [], 0, []⟩
def L_ad2 : LSpec := fun st Q => ∃ (U T : Int) (L : List RW), canonIs te 0 [6, 7, 10, 71, 72, 73] st (S_ad2 U T L 0) ∧ L.length ≤ 14 ∧ (0 ≤ U ∧ U ≤ 1000 ∧ 0 ≤ T ∧ T ≤ 100000) ∧ Asc keyC L ∧ (∀ r ∈ L, 0 ≤ r.u ∧ r.u ≤ 1000 ∧ 0 ≤ r.tv ∧ r.tv ≤ 100000) ∧
  Q (.exit 2) ⟨[(6, .int .i64 (U - sU (atR L) L.length)), (7, .int .i64 (T - sT (atR L) L.length))], [], 0, []⟩
end Go.Eng
/- The law of turnovers: what it calls. -/
namespace Go.Eng
/-- A catalog of a tape as data. -/
def R_catV : RSpec
  | [.ptr 0 0, .int .i64 k, .int .i64 most], [.cells [.view sz n f, .int .i64 a] t], R => t = 28 ∧ sz = 1 ∧ f = intRow (vInt f) ∧ (0 ≤ a ∧ a ≤ 4611686018427380000) ∧ (0 ≤ k ∧ k ≤ 100000) ∧ (0 ≤ most ∧ most ≤ 90) ∧
      ∀ (c : Nat) (g : Nat → PR) (a' : Int), c ≤ most.toNat → a' = a + 1 + 5 * c → (∀ j, j < c → (g j).Short) →
      R (.view 7 c (pdRow g)) [(0, .cells [.view 1 n f, .int .i64 a'] 28)]
  | _, _, _ => False
end Go.Eng
/- Find: the closure, the copy. -/
namespace Go.Eng
open Go.Proofs Go.RowKit
variable {C : Ctx} [C.Loose]
set_option maxRecDepth 20000
theorem nf_clone (n : Nat) (nm vl : Nat → List UInt8) (R : AV → List (Nat × AObj) → Prop) : wpFn te [] [] 0 Tryz.f96 [.view 2 (n + 1) (atRow nm vl)] [] R = ((0 ≤ 16777216 ∧ 2 = 2 ∧ 0 ≤ 9223372036854775807) ∧ (2 = 2 ∧ 0 ≤ 0 ∧ 2 = 2 ∧ 122 = 122 ∧ 2 = 2 ∧ 0 + (n + 1) ≤ 9223372036854775807 ∧ (0 + (n + 1)) * TI.bytes (TI.mk (TypeDesc.struct #[Field.mk "Name" (9 : TypeId) 0 false "" "" 0, Field.mk "Value" (9 : TypeId) 1 false "" "" 16]) 2 32 (Value.agg #[Value.string (ByteArray.mk #[]), Value.string (ByteArray.mk #[])]) true) ≤ 140737488355328) ∧ (∀ (i : Nat), i < 0 + (n + 1) → true = true) ∧ ∃ (O' : List (Nat × AObj)), RowsEq [(0, .row 122 2 (0 + (n + 1)) (apF 0 (chunkA (TI.sz (TI.mk (TypeDesc.struct #[Field.mk "Name" (9 : TypeId) 0 false "" "" 0, Field.mk "Value" (9 : TypeId) 1 false "" "" 16]) 2 32 (Value.agg #[Value.string (ByteArray.mk #[]), Value.string (ByteArray.mk #[])]) true)) (List.flatten (List.replicate 0 [.str ([]), .str ([])]))) (atRow nm vl)) false)] O' ∧ R (.own 0 (0 + (n + 1))) O') := by kernel_rfl
theorem nf_fcl (id code brand : List UInt8) (d c q : Int) (na : Nat) (h : Nat → List AV) (s : List UInt8) (R : AV → List (Nat × AObj) → Prop) : wpFn te [] [] 0 Tryz.f95 [.agg [.str id, .str code, .str brand, .int .i64 d, .int .i64 c, .int .i64 q, .view 2 na h], .ptr 0 0] [.cells [.str s] 9] R = (R (.bool (decide (id = s))) [(0, .cells [.str s] 9)]) := by kernel_rfl

theorem firstId_le (g : Nat → PR) (s : List UInt8) : ∀ k, firstId g s k ≤ k
  | 0 => Nat.le_refl _
  | k + 1 => by
    have ih := firstId_le g s k
    rw [firstId]
    cases decide (firstId g s k < k) with
    | true => exact Nat.le_succ_of_le ih
    | false => cases decide ((g k).id = s) <;> simp
theorem firstId_at {g : Nat → PR} {s : List UInt8} {k : Nat} (h : firstId g s k = k) (hk : (g k).id = s) : ∀ n, k < n → firstId g s n = k
  | 0, hn => by omega
  | n + 1, hn => by
    rw [firstId]
    by_cases e : k = n
    · subst e
      rw [decide_eq_false (show ¬ firstId g s k < k by omega), decide_eq_true hk]; rfl
    · have ih := firstId_at h hk n (by omega)
      rw [ih, decide_eq_true (show k < n by omega)]; rfl
theorem firstId_not {g : Nat → PR} {s : List UInt8} {k : Nat} (h : firstId g s k = k) (hk : ¬ (g k).id = s) : firstId g s (k + 1) = k + 1 := by
  rw [firstId, decide_eq_false (show ¬ firstId g s k < k by omega), decide_eq_false hk]; rfl

theorem clone_ok (hP : C.P = Tryz.prog) : SpecOK C 96 S_clone := by
  have _ : C.Loose := inferInstance
  rintro args objs U Os vc h hvc
  unfold S_clone at h
  split at h <;> simp only [Option.some.injEq, Prod.mk.injEq, reduceCtorEq] at h
  rename_i n f
  obtain ⟨rfl, rfl, rfl⟩ := h
  obtain ⟨hn, hm, hf⟩ := hvc
  obtain ⟨k, rfl⟩ : ∃ k, n = k + 1 := ⟨n - 1, by omega⟩
  generalize nmOf f = nm at *
  generalize vlOf f = vl at *
  subst hf
  refine ACalls.frz 0 ?_
  refine RSpecOK.wpL (prg hP) [] [] 0 .nil (hP ▸ Tryz.func96) rfl rfl rfl [] (by kernel_rfl) trivial ?_
  rw [nf_clone]
  refine ⟨⟨by omega, rfl, by omega⟩, ⟨rfl, Nat.le_refl _, rfl, rfl, rfl, by omega, ?_⟩, fun _ _ => rfl, [(0, .row 122 2 (0 + (k + 1)) (atRow nm vl) false)], ⟨⟨rfl, rfl, rfl, rfl, rfl, fun i hi => ?_⟩, trivial⟩, ⟨122, 2, 0 + (k + 1), atRow nm vl, false, rfl, fun _ _ => rfl, ?_⟩⟩
  · show (0 + (k + 1)) * 32 ≤ _
    omega
  · simp [apF]
  · have hb : Nat.ble (k + 1) (k + 1) = true := Nat.ble_eq_true_of_le (Nat.le_refl _)
    simp [frzC, frzA, frz, rm, hb]

theorem fcl_ok (hP : C.P = Tryz.prog) : SpecOK C 95 S_fcl := by
  have _ : C.Loose := inferInstance
  rintro args objs U Os vc h hvc
  unfold S_fcl at h
  split at h <;> simp only [Option.some.injEq, Prod.mk.injEq, reduceCtorEq] at h
  obtain ⟨rfl, rfl, rfl⟩ := h
  subst hvc
  refine SpecOK.wp0 (prg hP) [] 0 .nil (hP ▸ Tryz.func95) rfl rfl rfl ?_
  rw [nf_fcl]
  exact ⟨rfl, rfl⟩

end Go.Eng
/- Find over catalogs that are data. -/
namespace Go.Eng
open Go.Proofs Go.RowKit
variable {C : Ctx} [C.Loose]
set_option maxRecDepth 20000
theorem nf_ixV (g : Nat → PR) (s : List UInt8) (n : Nat) (R : AV → List (Nat × AObj) → Prop) : wpFn te [(95, .det S_fcl)] [(2, L_ixV g s n)] 0 Tryz.f94 [.view 7 n (pdRow g), .func 95 [.ptr 0 0]] [.cells [.str s] 9] R = (some (St.mk [(0, .view 7 n (pdRow g)), (1, .func 95 [.ptr 0 0]), (7, .int .i64 (↑n : Int)), (8, .int .i64 0)] [(0, .cells [.str s] 9)] 1 []) = some (St.mk [(0, .view 7 n (pdRow g)), (1, .func 95 [.ptr 0 0]), (7, .int .i64 (↑n : Int)), (8, .int .i64 (↑0 : Int))] [(0, .cells [.str s] 9)] 1 []) ∧ n ≤ 1000 ∧ condP (decide (firstId g s n < n)) (R (.int .i64 (↑(firstId g s n) : Int)) [(0, .cells [.str s] 9)]) (R (.int .i64 (-1 : Int)) [(0, .cells [.str s] 9)])) := by kernel_rfl
theorem nf_ixV_round (g : Nat → PR) (s : List UInt8) (n k : Nat) (P : Nat → Prop) (R : Exit → St → Prop) : roundP ⟨te, [(95, .det S_fcl)], [], 1, 19, 0⟩ (loopB Tryz.f94 2) [0, 1, 7, 8] [] [4] (S_ixV g s n) P R (S_ixV g s n k) = (condP (decide ((↑k : Int) < (↑n : Int))) (((0 : Int) ≤ (↑k : Int) ∧ (↑k : Int) < (↑n : Int) ∧ 7 = 7) ∧ 9 = 9 ∧ condP (decide (PR.id (g (Int.toNat (↑k : Int))) = s)) (R .ret (St.mk [(4, .int .i64 (↑k : Int))] [(0, .cells [.str s] 9)] 1 [])) (inR .i64 ((↑k : Int) + (1 : Int)) ∧ ∃ (i' : Nat), some (St.mk [(0, .view 7 n (pdRow g)), (1, .func 95 [.ptr 0 0]), (7, .int .i64 (↑n : Int)), (8, .int .i64 ((↑k : Int) + (1 : Int)))] [(0, .cells [.str s] 9)] 1 []) = some (St.mk [(0, .view 7 n (pdRow g)), (1, .func 95 [.ptr 0 0]), (7, .int .i64 (↑n : Int)), (8, .int .i64 (↑i' : Int))] [(0, .cells [.str s] 9)] 1 []) ∧ P i')) (R (.exit 0) (St.mk [] [(0, .cells [.str s] 9)] 1 []))) := by kernel_rfl
theorem nf_frV (g : Nat → PR) (s : List UInt8) (n : Nat) (R : AV → List (Nat × AObj) → Prop) : wpFn te [] [(2, L_frV g s n)] 0 Tryz.f63 [.view 7 n (pdRow g), .str s] [] R = (some (St.mk [(1, .str s), (4, .ptr 0 0), (8, .view 7 n (pdRow g)), (9, .int .i64 (↑n : Int)), (10, .int .i64 0)] [(0, .cells [.str [], .str [], .str [], .int .i64 0, .int .i64 0, .int .i64 0, .nil] 96)] 1 []) = some (St.mk [(1, .str s), (4, .ptr 0 0), (8, .view 7 n (pdRow g)), (9, .int .i64 (↑n : Int)), (10, .int .i64 (↑0 : Int))] [(0, .cells [.str [], .str [], .str [], .int .i64 0, .int .i64 0, .int .i64 0, .nil] 96)] 1 []) ∧ n ≤ 1000 ∧ condP (decide (firstId g s n < n)) ((True ∧ True) ∧ R (.tuple [.agg [.str (PR.id (g (firstId g s n))), .str (PR.code (g (firstId g s n))), .str (PR.brand (g (firstId g s n))), .int .i64 (PR.d (g (firstId g s n))), .int .i64 (PR.c (g (firstId g s n))), .int .i64 (PR.q (g (firstId g s n))), .view 2 (PR.na (g (firstId g s n))) (atRow (PR.nm (g (firstId g s n))) (PR.vl (g (firstId g s n))))], .bool true]) []) ((True ∧ True) ∧ R (.tuple [.agg [.str [], .str [], .str [], .int .i64 0, .int .i64 0, .int .i64 0, .nil], .bool false]) [])) := by kernel_rfl
theorem nf_frV_round (g : Nat → PR) (s : List UInt8) (n k : Nat) (P : Nat → Prop) (R : Exit → St → Prop) : roundP ⟨te, [], [], 0, 21, 0⟩ (loopB Tryz.f63 2) [1, 4, 8, 9, 10] [4] [4, 5] (S_frV g s n) P R (S_frV g s n k) = (condP (decide ((↑k : Int) < (↑n : Int))) (((0 : Int) ≤ (↑k : Int) ∧ (↑k : Int) < (↑n : Int) ∧ 7 = 7) ∧ condP (decide (PR.id (g (Int.toNat (↑k : Int))) = s)) (R .ret (St.mk [(4, .ptr 0 0), (5, .bool true)] [(0, .cells [.str (PR.id (g (Int.toNat (↑k : Int)))), .str (PR.code (g (Int.toNat (↑k : Int)))), .str (PR.brand (g (Int.toNat (↑k : Int)))), .int .i64 (PR.d (g (Int.toNat (↑k : Int)))), .int .i64 (PR.c (g (Int.toNat (↑k : Int)))), .int .i64 (PR.q (g (Int.toNat (↑k : Int)))), .view 2 (PR.na (g (Int.toNat (↑k : Int)))) (atRow (PR.nm (g (Int.toNat (↑k : Int)))) (PR.vl (g (Int.toNat (↑k : Int)))))] 96)] 1 [])) (inR .i64 ((↑k : Int) + (1 : Int)) ∧ ∃ (i' : Nat), some (St.mk [(1, .str s), (4, .ptr 0 0), (8, .view 7 n (pdRow g)), (9, .int .i64 (↑n : Int)), (10, .int .i64 ((↑k : Int) + (1 : Int)))] [(0, .cells [.str [], .str [], .str [], .int .i64 0, .int .i64 0, .int .i64 0, .nil] 96)] 1 []) = some (St.mk [(1, .str s), (4, .ptr 0 0), (8, .view 7 n (pdRow g)), (9, .int .i64 (↑n : Int)), (10, .int .i64 (↑i' : Int))] [(0, .cells [.str [], .str [], .str [], .int .i64 0, .int .i64 0, .int .i64 0, .nil] 96)] 1 []) ∧ P i')) (R (.exit 0) (St.mk [(4, .ptr 0 0)] [(0, .cells [.str [], .str [], .str [], .int .i64 0, .int .i64 0, .int .i64 0, .nil] 96)] 1 []))) := by kernel_rfl
theorem nf_findV (g : Nat → PR) (s : List UInt8) (n : Nat) (R : AV → List (Nat × AObj) → Prop) : wpFn te [(94, .det S_ixfV), (96, .det S_clone)] [] 0 Tryz.f62 [.view 7 n (pdRow g), .str s] [] R = ((9 = 9 ∧ n ≤ 1000 ∧ pdRow g = pdRow (prOf (pdRow g))) ∧ condP (decide (ixOf (prOf (pdRow g)) s n < (0 : Int))) ((True ∧ True) ∧ R (.tuple [.agg [.str [], .str [], .str [], .int .i64 0, .int .i64 0, .int .i64 0, .nil], .bool false]) []) (((0 : Int) ≤ ixOf (prOf (pdRow g)) s n ∧ ixOf (prOf (pdRow g)) s n < (↑n : Int) ∧ 7 = 7) ∧ (0 < PR.na (g (Int.toNat (ixOf (prOf (pdRow g)) s n))) ∧ PR.na (g (Int.toNat (ixOf (prOf (pdRow g)) s n))) ≤ 1000 ∧ atRow (PR.nm (g (Int.toNat (ixOf (prOf (pdRow g)) s n)))) (PR.vl (g (Int.toNat (ixOf (prOf (pdRow g)) s n)))) = atRow (nmOf (atRow (PR.nm (g (Int.toNat (ixOf (prOf (pdRow g)) s n)))) (PR.vl (g (Int.toNat (ixOf (prOf (pdRow g)) s n)))))) (vlOf (atRow (PR.nm (g (Int.toNat (ixOf (prOf (pdRow g)) s n)))) (PR.vl (g (Int.toNat (ixOf (prOf (pdRow g)) s n))))))) ∧ (True ∧ True) ∧ R (.tuple [.agg [.str (PR.id (g (Int.toNat (ixOf (prOf (pdRow g)) s n)))), .str (PR.code (g (Int.toNat (ixOf (prOf (pdRow g)) s n)))), .str (PR.brand (g (Int.toNat (ixOf (prOf (pdRow g)) s n)))), .int .i64 (PR.d (g (Int.toNat (ixOf (prOf (pdRow g)) s n)))), .int .i64 (PR.c (g (Int.toNat (ixOf (prOf (pdRow g)) s n)))), .int .i64 (PR.q (g (Int.toNat (ixOf (prOf (pdRow g)) s n)))), .view 2 (PR.na (g (Int.toNat (ixOf (prOf (pdRow g)) s n)))) (atRow (PR.nm (g (Int.toNat (ixOf (prOf (pdRow g)) s n)))) (PR.vl (g (Int.toNat (ixOf (prOf (pdRow g)) s n)))))], .bool true]) [])) := by kernel_rfl

theorem ixV_loop (hP : C.P = Tryz.prog) (g : Nat → PR) (s : List UInt8) (n : Nat) : LoopOK C 1 19 (loopC Tryz.f94 2) (L_ixV g s n) := by
  rintro st Q ⟨h0, hn, hQ⟩
  have hR := condP_elim hQ
  refine LoopOK.mk (prg hP) [(95, .det S_fcl)] 0 (.cons (fcl_ok hP) .nil) [0, 1, 7, 8] [] [4] (S_ixV g s n) (fun k => k ≤ n ∧ firstId g s k = k) (fun k => n - k) 0 ⟨Nat.zero_le _, rfl⟩ h0 (fun k hk => ?_)
  obtain ⟨hkn, hok⟩ := hk
  rw [nf_ixV_round, Int.toNat_natCast]
  refine condP_dec (fun h1 => ?_) (fun h1 => ?_)
  · refine ⟨⟨by omega, by omega, rfl⟩, rfl, condP_dec (fun h2 => ?_) (fun h2 => ⟨by simp only [inR]; omega, k + 1, rfl, ⟨by omega, firstId_not hok h2⟩, by omega⟩)⟩
    have e := firstId_at hok h2 n (by omega)
    have := hR.1 (by rw [e, decide_eq_true]; omega)
    rw [e] at this; exact this
  · have : k = n := by omega
    subst this
    exact hR.2 (by rw [hok, decide_eq_false]; omega)
theorem ixV_ok (hP : C.P = Tryz.prog) : SpecOK C 94 S_ixfV := by
  rintro args objs U Os vc h hvc
  unfold S_ixfV at h
  split at h <;> simp only [Option.some.injEq, Prod.mk.injEq, reduceCtorEq] at h
  rename_i n f s t2
  obtain ⟨rfl, rfl, rfl⟩ := h
  obtain ⟨rfl, hn, hf⟩ := hvc
  generalize prOf f = g at *
  subst hf
  refine SpecOK.wpL (prg hP) [(95, .det S_fcl)] [(2, L_ixV g s n)] 0 (.cons (fcl_ok hP) .nil) (hP ▸ Tryz.func94) rfl rfl rfl [(loopC Tryz.f94 2, L_ixV g s n)] (by kernel_rfl) ⟨ixV_loop hP g s n, trivial⟩ ?_
  rw [nf_ixV]
  unfold ixOf
  refine ⟨rfl, hn, condP_dec (fun h => ?_) (fun h => ?_)⟩
  · rw [decide_eq_true h]; exact ⟨rfl, rfl⟩
  · rw [decide_eq_false h]; exact ⟨rfl, rfl⟩
theorem frV_loop (hP : C.P = Tryz.prog) (g : Nat → PR) (s : List UInt8) (n : Nat) : LoopOK C 0 21 (loopC Tryz.f63 2) (L_frV g s n) := by
  have _ : C.Loose := inferInstance
  rintro st Q ⟨h0, hn, hQ⟩
  have hR := condP_elim hQ
  refine LoopOK.mk (prg hP) [] 0 .nil [1, 4, 8, 9, 10] [4] [4, 5] (S_frV g s n) (fun k => k ≤ n ∧ firstId g s k = k) (fun k => n - k) 0 ⟨Nat.zero_le _, rfl⟩ h0 (fun k hk => ?_)
  obtain ⟨hkn, hok⟩ := hk
  rw [nf_frV_round, Int.toNat_natCast]
  refine condP_dec (fun h1 => ?_) (fun h1 => ?_)
  · refine ⟨⟨by omega, by omega, rfl⟩, condP_dec (fun h2 => ?_) (fun h2 => ⟨by simp only [inR]; omega, k + 1, rfl, ⟨by omega, firstId_not hok h2⟩, by omega⟩)⟩
    have e := firstId_at hok h2 n (by omega)
    have := hR.1 (by rw [e, decide_eq_true]; omega)
    rw [e] at this; exact this
  · have : k = n := by omega
    subst this
    exact hR.2 (by rw [hok, decide_eq_false]; omega)
theorem findRV_ok (hP : C.P = Tryz.prog) : SpecOK C 63 S_findV := by
  rintro args objs U Os vc h hvc
  unfold S_findV at h
  split at h <;> simp only [Option.some.injEq, Prod.mk.injEq, reduceCtorEq] at h
  rename_i n f s
  obtain ⟨rfl, rfl, rfl⟩ := h
  obtain ⟨hn, hf, hs⟩ := hvc
  generalize prOf f = g at *
  subst hf
  refine ACalls.nilv 2 (atRow zeroPR.nm zeroPR.vl) ?_
  refine RSpecOK.wpL (prg hP) [] [(2, L_frV g s n)] 0 .nil (hP ▸ Tryz.func63) rfl rfl rfl [(loopC Tryz.f63 2, L_frV g s n)] (by kernel_rfl) ⟨frV_loop hP g s n, trivial⟩ ?_
  rw [nf_frV]
  unfold fnd
  refine ⟨rfl, hn, condP_dec (fun h => ⟨⟨trivial, trivial⟩, ?_⟩) (fun h => ⟨⟨trivial, trivial⟩, ?_⟩)⟩
  · rw [decide_eq_true h]; exact ⟨rfl, rfl⟩
  · rw [decide_eq_false h]; exact ⟨rfl, rfl⟩
theorem findV_ok (hP : C.P = Tryz.prog) : SpecOK C 62 S_findV := by
  rintro args objs U Os vc h hvc
  unfold S_findV at h
  split at h <;> simp only [Option.some.injEq, Prod.mk.injEq, reduceCtorEq] at h
  rename_i n f s
  obtain ⟨rfl, rfl, rfl⟩ := h
  obtain ⟨hn, hf, hs⟩ := hvc
  generalize prOf f = g at *
  subst hf
  refine ACalls.nilv 2 (atRow zeroPR.nm zeroPR.vl) ?_
  refine RSpecOK.wpL (prg hP) [(94, .det S_ixfV), (96, .det S_clone)] [] 0 (.cons (ixV_ok hP) (.cons (clone_ok hP) .nil)) (hP ▸ Tryz.func62) rfl rfl rfl [] (by kernel_rfl) trivial ?_
  rw [nf_findV]
  have hg : prOf (pdRow g) = g := rfl
  rw [hg]
  by_cases h : firstId g s n < n
  · have hix : ixOf g s n = (firstId g s n : Int) := by unfold ixOf; rw [decide_eq_true h]; rfl
    have hfn : fnd g s n = g (firstId g s n) := by unfold fnd; rw [decide_eq_true h]; rfl
    rw [hix, hfn, Int.toNat_natCast, decide_eq_true h]
    have hp := (hs _ h).na
    exact ⟨⟨rfl, hn, rfl⟩, condP_dec (fun q => absurd q (by omega)) (fun _ => ⟨⟨by omega, by omega, rfl⟩, ⟨by omega, by omega, rfl⟩, ⟨trivial, trivial⟩, rfl, rfl⟩)⟩
  · have hix : ixOf g s n = -1 := by unfold ixOf; rw [decide_eq_false h]; rfl
    have hfn : fnd g s n = zeroPR := by unfold fnd; rw [decide_eq_false h]; rfl
    rw [hix, hfn, decide_eq_false h]
    exact ⟨⟨rfl, hn, rfl⟩, condP_dec (fun _ => ⟨⟨trivial, trivial⟩, rfl, rfl⟩) (fun q => absurd (show (-1 : Int) < 0 by omega) q)⟩
end Go.Eng
