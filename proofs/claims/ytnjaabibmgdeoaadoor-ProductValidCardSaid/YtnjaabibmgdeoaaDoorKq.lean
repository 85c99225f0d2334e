/- Lemmas that the tied card of ProductValid is proved by. -/
import Derived.Test.YtnjaabibmgdeoaaDoorKp
import Derived.Test.YtnjaabibmgdeoaaDoorKj
/- The reference of the codes: plain functions. -/
namespace Go.Eng

def dig (b : UInt8) : Bool := decide (48 ≤ b.toNat) && decide (b.toNat ≤ 57)
/-- At most two digits: their value, how many. -/
def numAt : List UInt8 → Nat × Nat
  | [] => (0, 0)
  | [b] => match dig b with
    | true => (b.toNat - 48, 1)
    | false => (0, 0)
  | b :: c :: _ => match dig b with
    | true => match dig c with
      | true => (10 * (b.toNat - 48) + (c.toNat - 48), 2)
      | false => (b.toNat - 48, 1)
    | false => (0, 0)

/-- Is there no further part here? (k: how many came before) -/
def noPart (k : Nat) (r : List UInt8) : Bool := decide ((numAt r).2 = 0) || decide ((numAt r).1 = 0) || (decide (k = 0) && !decide ((numAt r).2 = 2)) || (decide (0 < k) && decide ((r.getD 0 0).toNat = 48)) || decide (k = 5)

def pref : Nat → Nat → List UInt8 → Option (List Int)
  | 0, _, _ => none
  | fuel + 1, k, r => match noPart k r with
    | true => none
    | false => match r.drop (numAt r).2 with
      | [] => some [((numAt r).1 : Int)]
      | b :: r' => match decide (b.toNat = 46) with
        | true => match pref fuel (k + 1) r' with
          | some l => some (((numAt r).1 : Int) :: l)
          | none => none
        | false => none

def dg (s : List UInt8) (j : Nat) : Int := ((s.getD j 0).toNat : Int) - 48
def nv (s : List UInt8) (a : Nat) : Nat → Int
  | 0 => 0
  | 1 => dg s a
  | _ => 10 * dg s a + dg s (a + 1)
def S_in (s : List UInt8) (k : Nat) (v : Nat → Int) (a c : Nat) : St := ⟨[(0, .str s), (4, .own 0 k), (5, .int .i64 ((a : Int) + c)), (6, .int .i64 (nv s a c)), (7, .int .i64 a)], [(0, .row 3 1 k (fun i => [.int .i64 (v i)]) false)], 1, []⟩
def L_in (s : List UInt8) (k : Nat) (v : Nat → Int) (a : Nat) : LSpec := fun st Q => canonIs te 0 [0, 4, 5, 6, 7] st (S_in s k v a 0) ∧ a ≤ s.length ∧ s.length < 4294967281 ∧
  Q (.exit 2) ⟨[(0, .str s), (4, .own 0 k), (5, .int .i64 ((a : Int) + ((numAt (s.drop a)).2 : Nat))), (6, .int .i64 ((numAt (s.drop a)).1 : Nat)), (7, .int .i64 a)], [(0, .row 3 1 k (fun i => [.int .i64 (v i)]) false)], 1, []⟩
structure PIx where
  k : Nat
  a : Nat
  v : Nat → Int
def S_rp (s : List UInt8) (i : PIx) : St := ⟨[(0, .str s), (4, .own 0 i.k), (5, .int .i64 i.a)], [(0, .row 3 1 i.k (fun j => [.int .i64 (i.v j)]) false)], 1, []⟩
def L_rp (s : List UInt8) : LSpec := fun st Q => canonIs te 0 [0, 4, 5] (ownNil 4 3 1 st) (S_rp s ⟨0, 0, fun _ => 0⟩) ∧ s.length < 4294967281 ∧
  condP (parseOK s) (Q .ret ⟨[(2, .own 0 (words s).length), (3, .int .i64 0)], [(0, .row 3 1 (words s).length (fun i => [.int .i64 (wordV s i)]) false)], 1, []⟩) (Q .ret ⟨[(2, .nil), (3, .int .i64 60)], [], 0, []⟩)

theorem getD_drop (s : List UInt8) (a j : Nat) : (s.drop a).getD j 0 = s.getD (a + j) 0 := by simp [List.getD]

theorem numAt_two {s : List UInt8} {a : Nat} (h : a + 2 ≤ s.length) (h0 : dig (s.getD a 0) = true) (h1 : dig (s.getD (a + 1) 0) = true) : numAt (s.drop a) = (10 * ((s.getD a 0).toNat - 48) + ((s.getD (a + 1) 0).toNat - 48), 2) := by
  have e : s.drop a = s.getD a 0 :: s.getD (a + 1) 0 :: s.drop (a + 2) := by
    rw [List.drop_eq_getElem_cons (by omega), List.drop_eq_getElem_cons (by omega)]
    simp [List.getD, show a < s.length by omega, show a + 1 < s.length by omega]
  rw [e]
  simp only [numAt, h0, h1]
theorem numAt_one {s : List UInt8} {a : Nat} (h : a + 1 ≤ s.length) (h0 : dig (s.getD a 0) = true) (h1 : a + 1 = s.length ∨ dig (s.getD (a + 1) 0) = false) : numAt (s.drop a) = ((s.getD a 0).toNat - 48, 1) := by
  by_cases hl : a + 1 = s.length
  · have e : s.drop a = [s.getD a 0] := by
      rw [List.drop_eq_getElem_cons (by omega), List.drop_eq_nil_of_le (by omega)]
      simp [List.getD, show a < s.length by omega]
    rw [e]
    simp only [numAt, h0]
  · have e : s.drop a = s.getD a 0 :: s.getD (a + 1) 0 :: s.drop (a + 2) := by
      rw [List.drop_eq_getElem_cons (by omega), List.drop_eq_getElem_cons (by omega)]
      simp [List.getD, show a < s.length by omega, show a + 1 < s.length by omega]
    rw [e]
    simp only [numAt, h0, h1.resolve_left hl]
theorem numAt_none {s : List UInt8} {a : Nat} (h : s.length ≤ a ∨ dig (s.getD a 0) = false) : numAt (s.drop a) = (0, 0) := by
  by_cases hl : s.length ≤ a
  · rw [List.drop_eq_nil_of_le hl]; rfl
  · have h0 := h.resolve_left hl
    have e : s.drop a = s.getD a 0 :: s.drop (a + 1) := by
      rw [List.drop_eq_getElem_cons (by omega)]
      simp [List.getD, show a < s.length by omega]
    rw [e]
    cases s.drop (a + 1) <;> simp only [numAt, h0]
theorem dig_iff (b : UInt8) : dig b = true ↔ 48 ≤ b.toNat ∧ b.toNat ≤ 57 := by simp [dig]
theorem dig_no (b : UInt8) (h : ¬ (48 ≤ b.toNat ∧ b.toNat ≤ 57)) : dig b = false := by
  cases hd : dig b with
  | false => rfl
  | true => exact absurd ((dig_iff b).1 hd) h
theorem numAt_le (r : List UInt8) : (numAt r).2 ≤ r.length ∧ (numAt r).2 ≤ 2 ∧ (numAt r).1 ≤ 99 := by
  match r with
  | [] => exact ⟨by simp [numAt], by simp [numAt], by simp [numAt]⟩
  | [b] =>
    simp only [numAt]
    split
    · rename_i h; have := (dig_iff b).1 h; exact ⟨by simp, by simp, by simp; omega⟩
    · exact ⟨by simp, by simp, by simp⟩
  | b :: c :: l =>
    simp only [numAt]
    split
    · rename_i h
      have h1 := (dig_iff b).1 h
      split
      · rename_i h'
        have h2 := (dig_iff c).1 h'
        exact ⟨by simp, by simp, by simp; omega⟩
      · exact ⟨by simp, by simp, by simp; omega⟩
    · exact ⟨by simp, by simp, by simp⟩

theorem numAt_dec : ∀ n : Nat, n < 100 → 1 ≤ n → (numAt (decF n) = (n, (decF n).length) ∧ numAt (decF n ++ [46]) = (n, (decF n).length)) := by decide +kernel

end Go.Eng

/- The reference of the codes: what it takes is what the parse takes. Plain. -/
namespace Go.Eng

def tailF : List Int → List UInt8
  | [] => []
  | p :: ps => 46 :: (decF p ++ tailF ps)
def headF (k : Nat) (p : Int) : List UInt8 := match k with
  | 0 => fmtHead p
  | _ + 1 => decF p
def okP (p : Int) : Prop := 1 ≤ p ∧ p ≤ 99

theorem decF_one {b : UInt8} (h : dig b = true) (h1 : 1 ≤ b.toNat - 48) : decF ((b.toNat - 48 : Nat) : Int) = [b] := by
  have hb := (dig_iff b).1 h
  rw [decF_lo (by omega) (by omega)]
  congr 1
  apply UInt8.toNat_inj.1
  simp
  omega
theorem decF_two {b c : UInt8} (h : dig b = true) (hc : dig c = true) (h1 : b.toNat ≠ 48) : decF ((10 * (b.toNat - 48) + (c.toNat - 48) : Nat) : Int) = [b, c] := by
  have hb := (dig_iff b).1 h
  have hc' := (dig_iff c).1 hc
  rw [decF_hi (by omega) (by omega)]
  congr 1
  · apply UInt8.toNat_inj.1
    simp
    omega
  · congr 1
    apply UInt8.toNat_inj.1
    simp
    omega

theorem numAt_head {k : Nat} {r : List UInt8} (h : noPart k r = false) : okP ((numAt r).1 : Int) ∧ k ≠ 5 ∧ r = headF k ((numAt r).1 : Int) ++ r.drop (numAt r).2 := by
  have h' : ¬ (numAt r).2 = 0 ∧ ¬ (numAt r).1 = 0 ∧ (k = 0 → (numAt r).2 = 2) ∧ (0 < k → ¬ (r.getD 0 0).toNat = 48) ∧ ¬ k = 5 := by
    unfold noPart at h
    simp only [Bool.or_eq_false_iff, decide_eq_false_iff_not, Bool.and_eq_false_iff, Bool.not_eq_false', decide_eq_true_iff] at h
    obtain ⟨⟨⟨⟨a, b⟩, c⟩, d⟩, e⟩ := h
    exact ⟨a, b, fun hk => c.resolve_left (fun n => n hk), fun hk => d.resolve_left (fun n => n hk), e⟩
  clear h
  obtain ⟨h2, h1, hk0, hk1, hk5⟩ := h'
  have hle := numAt_le r
  refine ⟨⟨by omega, by omega⟩, hk5, ?_⟩
  match r with
  | [] => exact absurd rfl h2
  | [b] =>
    cases hb : dig b with
    | false => exact absurd (by simp only [numAt, hb]) h2
    | true =>
      have e : numAt [b] = (b.toNat - 48, 1) := by simp only [numAt, hb]
      rw [e] at h1 hk0 ⊢
      match k with
      | 0 => exact absurd (hk0 rfl) (by simp)
      | k + 1 =>
        have e1 := decF_one hb (Nat.pos_of_ne_zero h1)
        simp only [headF, e1]; rfl
  | b :: c :: l =>
    cases hb : dig b with
    | false => exact absurd (by simp only [numAt, hb]) h2
    | true =>
      have hb' := (dig_iff b).1 hb
      cases hc : dig c with
      | false =>
        have e : numAt (b :: c :: l) = (b.toNat - 48, 1) := by simp only [numAt, hb, hc]
        rw [e] at h1 hk0 ⊢
        match k with
        | 0 => exact absurd (hk0 rfl) (by simp)
        | k + 1 =>
          have e1 := decF_one hb (Nat.pos_of_ne_zero h1)
          simp only [headF, e1]; rfl
      | true =>
        have hc' := (dig_iff c).1 hc
        have e : numAt (b :: c :: l) = (10 * (b.toNat - 48) + (c.toNat - 48), 2) := by simp only [numAt, hb, hc]
        rw [e] at h1 ⊢
        match k with
        | k + 1 =>
          have h48 : ¬ b.toNat = 48 := hk1 (by omega)
          simp only [headF, decF_two hb hc h48]; rfl
        | 0 =>
          by_cases h48 : b.toNat = 48
          · have eb : b = 48 := UInt8.toNat_inj.1 h48
            have en : 10 * (b.toNat - 48) + (c.toNat - 48) = c.toNat - 48 := by omega
            simp only [en] at h1 ⊢
            have e1 := decF_one hc (Nat.pos_of_ne_zero h1)
            have e2 : fmtHead ((c.toNat - 48 : Nat) : Int) = [48, c] := by
              unfold fmtHead
              rw [decide_eq_true (show ((c.toNat - 48 : Nat) : Int) < 10 by omega), e1]
            simp only [headF, e2, eb]; rfl
          · have e1 := decF_two hb hc h48
            have e2 : fmtHead ((10 * (b.toNat - 48) + (c.toNat - 48) : Nat) : Int) = [b, c] := by
              unfold fmtHead
              rw [decide_eq_false (show ¬ ((10 * (b.toNat - 48) + (c.toNat - 48) : Nat) : Int) < 10 by omega), e1]
            simp only [headF, e2]; rfl

theorem headF_pos {k : Nat} (hk : 0 < k) (p : Int) : headF k p = decF p := by
  cases k with
  | zero => omega
  | succ k => rfl

theorem pref_sound : ∀ fuel k r ps, k ≤ 5 → pref fuel k r = some ps → ∃ p l, ps = p :: l ∧ r = headF k p ++ tailF l ∧ (∀ q ∈ ps, okP q) ∧ ps.length + k ≤ 5 := by
  intro fuel
  induction fuel with
  | zero => intro k r ps _ h; exact absurd h (by simp [pref])
  | succ fuel ih =>
    intro k r ps hk h
    unfold pref at h
    cases hn : noPart k r with
    | true => rw [hn] at h; exact absurd h (by simp)
    | false =>
      rw [hn] at h
      obtain ⟨ho, h5, hr⟩ := numAt_head hn
      cases hd : r.drop (numAt r).2 with
      | nil =>
        simp only [hd] at h
        obtain rfl := Option.some.inj h
        refine ⟨_, [], rfl, ?_, fun q hq => ?_, ?_⟩
        · rw [hd] at hr; exact hr
        · obtain rfl := List.mem_singleton.1 hq; exact ho
        · show 0 + 1 + k ≤ 5; omega
      | cons b r' =>
        simp only [hd] at h
        by_cases hb : b.toNat = 46
        · rw [decide_eq_true hb] at h
          cases hp : pref fuel (k + 1) r' with
          | none => simp only [hp] at h; exact absurd h (by simp)
          | some l =>
            simp only [hp] at h
            obtain rfl := Option.some.inj h
            obtain ⟨p, l', rfl, hr', hok, hlen⟩ := ih (k + 1) r' l (by omega) hp
            rw [headF_pos (by omega)] at hr'
            refine ⟨_, p :: l', rfl, ?_, fun q hq => ?_, ?_⟩
            · rw [hd, hr'] at hr
              have eb : b = 46 := UInt8.toNat_inj.1 hb
              rw [eb] at hr
              exact hr
            · rcases List.mem_cons.1 hq with rfl | hq
              · exact ho
              · exact hok q hq
            · simp only [List.length_cons] at hlen ⊢; omega
        · rw [decide_eq_false hb] at h; exact absurd h (by simp)

theorem numAt_two_only (b c : UInt8) (l l' : List UInt8) : numAt (b :: c :: l) = numAt (b :: c :: l') := rfl
theorem head_all : ∀ n : Nat, n < 100 → 1 ≤ n → ∀ k : Fin 2, numAt (headF k.val n) = (n, (headF k.val n).length) ∧ numAt (headF k.val n ++ [46]) = (n, (headF k.val n).length) ∧ (headF k.val n).isEmpty = false ∧ (k.val = 0 → (headF k.val n).length = 2) ∧ (0 < k.val → ¬ ((headF k.val n).getD 0 0).toNat = 48) := by decide +kernel
theorem head_ok {p : Int} (h : okP p) (k : Nat) (t : List UInt8) : numAt (headF k p ++ 46 :: t) = (p.toNat, (headF k p).length) ∧ numAt (headF k p) = (p.toNat, (headF k p).length) ∧ 1 ≤ (headF k p).length ∧ (k = 0 → (headF k p).length = 2) ∧ (0 < k → ¬ ((headF k p).getD 0 0).toNat = 48) := by
  obtain ⟨h1, h2⟩ := h
  obtain ⟨n, rfl⟩ := Int.eq_ofNat_of_zero_le (show 0 ≤ p by omega)
  have key : ∀ i : Fin 2, headF k (n : Int) = headF i.val n → (k = 0 ↔ i.val = 0) → numAt (headF k n ++ 46 :: t) = ((n : Int).toNat, (headF k n).length) ∧ numAt (headF k n) = ((n : Int).toNat, (headF k n).length) ∧ 1 ≤ (headF k n).length ∧ (k = 0 → (headF k n).length = 2) ∧ (0 < k → ¬ ((headF k n).getD 0 0).toNat = 48) := by
    intro i hi hz
    obtain ⟨a, b, c, d, e⟩ := head_all n (by omega) (by omega) i
    rw [hi]
    refine ⟨?_, a, ?_, fun h0 => d (hz.1 h0), fun h0 => e (by omega)⟩
    · rw [show ((n : Int).toNat, (headF i.val n).length) = (n, (headF i.val n).length) from rfl, ← b]
      cases hw : headF i.val n with
      | nil => rw [hw] at c; cases c
      | cons x w =>
        cases w with
        | nil => rfl
        | cons y w => rfl
    · cases hw : headF i.val n with
      | nil => rw [hw] at c; cases c
      | cons x w => simp
  cases k with
  | zero => exact key ⟨0, by omega⟩ rfl (by simp)
  | succ k => exact key ⟨1, by omega⟩ rfl (by simp)

theorem pref_complete : ∀ l p fuel k, (∀ q ∈ p :: l, okP q) → l.length + 1 + k ≤ 5 → l.length + 1 ≤ fuel → pref fuel k (headF k p ++ tailF l) = some (p :: l) := by
  intro l
  induction l with
  | nil =>
    intro p fuel k hp hk hf
    have ho := hp p (by simp)
    obtain ⟨f, rfl⟩ : ∃ f, fuel = f + 1 := ⟨fuel - 1, by simp at hf; omega⟩
    obtain ⟨_, hb, hc, hd, he⟩ := head_ok ho k []
    have hn : noPart k (headF k p) = false := by
      unfold noPart
      rw [hb]
      obtain ⟨h1, h2⟩ := ho
      simp only [Bool.or_eq_false_iff, decide_eq_false_iff_not, Bool.and_eq_false_iff, Bool.not_eq_false', decide_eq_true_iff]
      refine ⟨⟨⟨⟨by omega, by omega⟩, ?_⟩, ?_⟩, by simp at hk; omega⟩
      · by_cases h0 : k = 0
        · exact .inr (hd h0)
        · exact .inl h0
      · by_cases h0 : 0 < k
        · exact .inr (he h0)
        · exact .inl h0
    rw [show headF k p ++ tailF [] = headF k p from List.append_nil _]
    unfold pref
    rw [hn, hb]
    simp only [List.drop_length]
    have : ((p.toNat : Nat) : Int) = p := by obtain ⟨h1, _⟩ := ho; omega
    rw [this]
  | cons q l ih =>
    intro p fuel k hp hk hf
    have ho := hp p (by simp)
    obtain ⟨f, rfl⟩ : ∃ f, fuel = f + 1 := ⟨fuel - 1, by simp at hf; omega⟩
    have ht : headF k p ++ tailF (q :: l) = headF k p ++ 46 :: (decF q ++ tailF l) := rfl
    obtain ⟨ha, _, hc, hd, he⟩ := head_ok ho k (decF q ++ tailF l)
    have hg : (headF k p ++ 46 :: (decF q ++ tailF l)).getD 0 0 = (headF k p).getD 0 0 := by
      cases hw : headF k p with
      | nil => rw [hw] at hc; simp at hc
      | cons x w => rfl
    have hn : noPart k (headF k p ++ 46 :: (decF q ++ tailF l)) = false := by
      unfold noPart
      rw [ha, hg]
      obtain ⟨h1, h2⟩ := ho
      simp only [Bool.or_eq_false_iff, decide_eq_false_iff_not, Bool.and_eq_false_iff, Bool.not_eq_false', decide_eq_true_iff]
      refine ⟨⟨⟨⟨by omega, by omega⟩, ?_⟩, ?_⟩, by simp at hk; omega⟩
      · by_cases h0 : k = 0
        · exact .inr (hd h0)
        · exact .inl h0
      · by_cases h0 : 0 < k
        · exact .inr (he h0)
        · exact .inl h0
    rw [ht]
    unfold pref
    rw [hn, ha]
    simp only [List.drop_left]
    have e1 : decide ((46 : UInt8).toNat = 46) = true := rfl
    rw [e1]
    have hi := ih q f (k + 1) (fun x hx => hp x (List.mem_cons_of_mem _ hx)) (by simp at hk ⊢; omega) (by simp at hf ⊢; omega)
    rw [headF_pos (by omega)] at hi
    simp only [hi]
    have : ((p.toNat : Nat) : Int) = p := by obtain ⟨h1, _⟩ := ho; omega
    rw [this]

theorem index_skip : ∀ (w r : List UInt8), (46 : UInt8) ∉ w → Lib.index (w ++ 46 :: r) [46] = (w.length : Nat)
  | [], r, _ => by
    show (if ([46] : List UInt8).isPrefixOf (46 :: r) then (0 : Int) else _) = _
    rfl
  | b :: w, r, h => by
    have ih := index_skip w r (fun hx => h (List.mem_cons_of_mem _ hx))
    have hb : (46 : UInt8) ≠ b := fun e => h (e ▸ List.mem_cons_self ..)
    show (if ([46] : List UInt8).isPrefixOf (b :: (w ++ 46 :: r)) then (0 : Int) else if Lib.index (w ++ 46 :: r) [46] == -1 then -1 else Lib.index (w ++ 46 :: r) [46] + 1) = _
    have e : ([46] : List UInt8).isPrefixOf (b :: (w ++ 46 :: r)) = false := by simp [List.isPrefixOf, hb]
    rw [e, ih]
    have e2 : (((w.length : Nat) : Int) == -1) = false := by simp
    rw [e2]
    simp
theorem index_none : ∀ (w : List UInt8), (46 : UInt8) ∉ w → Lib.index w [46] = -1
  | [], _ => rfl
  | b :: w, h => by
    have ih := index_none w (fun hx => h (List.mem_cons_of_mem _ hx))
    have hb : (46 : UInt8) ≠ b := fun e => h (e ▸ List.mem_cons_self ..)
    show (if ([46] : List UInt8).isPrefixOf (b :: w) then (0 : Int) else if Lib.index w [46] == -1 then -1 else Lib.index w [46] + 1) = _
    have e : ([46] : List UInt8).isPrefixOf (b :: w) = false := by simp [List.isPrefixOf, hb]
    rw [e, ih]
    rfl
theorem dec_no46 : ∀ n : Nat, n < 100 → (46 : UInt8) ∉ decF n ∧ (46 : UInt8) ∉ fmtHead n ∧ atoiZ (decF n) = n ∧ atoiZ (fmtHead n) = n := by decide +kernel
theorem dec_ok {p : Int} (h : okP p) : (46 : UInt8) ∉ decF p ∧ (46 : UInt8) ∉ fmtHead p ∧ atoiZ (decF p) = p ∧ atoiZ (fmtHead p) = p := by
  obtain ⟨h1, h2⟩ := h
  obtain ⟨n, rfl⟩ := Int.eq_ofNat_of_zero_le (show 0 ≤ p by omega)
  exact dec_no46 n (by omega)
theorem words_tail : ∀ l (w : List UInt8), (46 : UInt8) ∉ w → (∀ q ∈ l, okP q) → words (w ++ tailF l) = w :: l.map decF
  | [], w, hw, _ => by
    show words (w ++ []) = [w]
    rw [List.append_nil]
    exact words_miss (index_none w hw)
  | q :: l, w, hw, hl => by
    show words (w ++ 46 :: (decF q ++ tailF l)) = _
    have ih := words_tail l (decF q) (dec_ok (hl q (by simp))).1 (fun x hx => hl x (List.mem_cons_of_mem _ hx))
    rw [words_hit (index_skip w _ hw)]
    have e1 : (w ++ 46 :: (decF q ++ tailF l)).take w.length = w := by simp
    have e2 : (w ++ 46 :: (decF q ++ tailF l)).drop (w.length + 1) = decF q ++ tailF l := by
      rw [List.drop_append]; simp
    rw [e1, e2, ih]; rfl

theorem tailF_snoc : ∀ (l : List Int) (x : Int), tailF (l ++ [x]) = tailF l ++ (46 :: decF x)
  | [], x => by show 46 :: (decF x ++ []) = _; rw [List.append_nil]; rfl
  | q :: l, x => by
    show 46 :: (decF q ++ tailF (l ++ [x])) = 46 :: (decF q ++ tailF l) ++ _
    rw [tailF_snoc l x]
    simp
theorem fmtRest_tail (v : Nat → Int) : ∀ k, fmtRest v k = tailF ((List.range k).map fun i => v (i + 1))
  | 0 => rfl
  | k + 1 => by
    rw [List.range_succ, List.map_append, show List.map (fun i => v (i + 1)) [k] = [v (k + 1)] from rfl, tailF_snoc, ← fmtRest_tail v k]
    rfl
theorem le_minV (v : Nat → Int) (a : Int) : ∀ k, (∀ i, i ≤ k → a ≤ v i) → a ≤ minV v k
  | 0, h => h 0 (Nat.le_refl _)
  | k + 1, h => by
    have ih := le_minV v a k (fun i hi => h i (by omega))
    have h1 := h (k + 1) (Nat.le_refl _)
    simp only [minV]
    first
      | omega
      | (cases hd : decide (v (k + 1) < minV v k) <;> simp only [cond_true, cond_false] <;> assumption)
      | (split <;> assumption)
      | fail
theorem maxV_le (v : Nat → Int) (a : Int) : ∀ k, (∀ i, i ≤ k → v i ≤ a) → maxV v k ≤ a
  | 0, h => h 0 (Nat.le_refl _)
  | k + 1, h => by
    have ih := maxV_le v a k (fun i hi => h i (by omega))
    have h1 := h (k + 1) (Nat.le_refl _)
    simp only [maxV]
    first
      | omega
      | (cases hd : decide (maxV v k < v (k + 1)) <;> simp only [cond_true, cond_false] <;> assumption)
      | (split <;> assumption)
      | fail
theorem list_range (l : List Int) : (List.range l.length).map (fun i => l.getD i 0) = l := by
  apply List.ext_getElem
  · simp
  · intro i h1 h2
    simp [List.getD, h2]

theorem parse_pref (s : List UInt8) : match pref 6 0 s with
    | some ps => parseOK s = true ∧ (words s).length = ps.length ∧ ∀ i, i < ps.length → wordV s i = ps.getD i 0
    | none => parseOK s = false := by
  cases hp : pref 6 0 s with
  | some ps =>
    obtain ⟨p, l, rfl, hs, hok, hlen⟩ := pref_sound 6 0 s ps (by omega) hp
    have hs : s = fmtHead p ++ tailF l := hs
    have hw : words s = fmtHead p :: l.map decF := by rw [hs]; exact words_tail l _ (dec_ok (hok p (by simp))).2.1 (fun q hq => hok q (List.mem_cons_of_mem _ hq))
    have hl : (words s).length = (p :: l).length := by rw [hw]; simp
    have hv : ∀ i, i < (p :: l).length → wordV s i = (p :: l).getD i 0 := by
      intro i hi
      unfold wordV
      rw [hw]
      cases i with
      | zero => exact (dec_ok (hok p (by simp))).2.2.2
      | succ i =>
        have hi' : i < l.length := by simpa using hi
        have e : (fmtHead p :: l.map decF).getD (i + 1) [] = decF l[i] := by simp [List.getD, hi']
        have e' : (p :: l).getD (i + 1) 0 = l[i] := by simp [List.getD, hi']
        rw [e, e']
        exact (dec_ok (hok _ (List.mem_cons_of_mem _ (List.getElem_mem hi')))).2.2.1
    refine ⟨?_, hl, hv⟩
    have hn : (words s).length - 1 = l.length := by rw [hl]; simp
    have hat : ∀ i, i ≤ l.length → okP (wordV s i) := by
      intro i hi
      have hi' : i < (p :: l).length := by simp; omega
      rw [hv i hi', show (p :: l).getD i 0 = (p :: l)[i] by rw [List.getD, List.getElem?_eq_getElem hi']; rfl]
      exact hok _ (List.getElem_mem hi')
    unfold parseOK
    rw [Bool.and_eq_true]
    refine ⟨?_, ?_⟩
    · unfold fmtOK
      rw [hn, hl]
      simp only [Bool.and_eq_true, decide_eq_true_iff]
      refine ⟨⟨⟨by simp, by simp at hlen ⊢; omega⟩, le_minV _ _ _ fun i hi => (hat i hi).1⟩, maxV_le _ _ _ fun i hi => (hat i hi).2⟩
    · rw [decide_eq_true_iff]
      unfold fmtZ
      rw [hn, fmtRest_tail]
      have e1 : wordV s 0 = p := hv 0 (by simp)
      have e2 : (List.range l.length).map (fun i => wordV s (i + 1)) = l := by
        conv => rhs; rw [← list_range l]
        apply List.map_congr_left
        intro i hi
        have hi := List.mem_range.1 hi
        rw [hv (i + 1) (by simp; omega)]
        rfl
      rw [e1, e2]
      exact hs.symm
  | none =>
    cases hc : parseOK s with
    | false => rfl
    | true =>
      unfold parseOK at hc
      rw [Bool.and_eq_true, decide_eq_true_iff] at hc
      obtain ⟨h1, h2⟩ := hc
      have hn := fmtOK_n h1
      have hat := fmtOK_at h1
      unfold fmtZ at h2
      rw [fmtRest_tail] at h2
      have := pref_complete ((List.range ((words s).length - 1)).map fun i => wordV s (i + 1)) (wordV s 0) 6 0 (by
        intro q hq
        rcases List.mem_cons.1 hq with rfl | hq
        · exact hat 0 (by omega)
        · obtain ⟨i, hi, rfl⟩ := List.mem_map.1 hq
          have hi := List.mem_range.1 hi
          exact hat (i + 1) (by omega)) (by simp; omega) (by simp; omega)
      rw [show headF 0 (wordV s 0) = fmtHead (wordV s 0) from rfl, h2, hp] at this
      exact absurd this (by simp)

end Go.Eng

/- The reference of the codes. -/
namespace Go.Eng
open Go.Proofs Go.RowKit
variable {C : Ctx}
set_option maxRecDepth 20000
theorem nf_rp_in (s : List UInt8) (k : Nat) (v : Nat → Int) (a c : Nat) (P : Nat → Prop) (R : Exit → St → Prop) : roundP ⟨te, [], [], 0, 90, 0⟩ (loopB Tryd.f40 4) [0, 4, 5, 6, 7] [0, 4, 5, 6, 7] [] (S_in s k v a) P R (S_in s k v a c) = (condP (decide ((↑a : Int) + (↑c : Int) < (↑(List.length s) : Int))) (((0 : Int) ≤ (↑a : Int) + (↑c : Int) ∧ (↑a : Int) + (↑c : Int) < (↑(List.length s) : Int)) ∧ condP (decide ((48 : Int) ≤ (↑(UInt8.toNat (List.getD s (Int.toNat ((↑a : Int) + (↑c : Int))) (0 : UInt8))) : Int))) (((0 : Int) ≤ (↑a : Int) + (↑c : Int) ∧ (↑a : Int) + (↑c : Int) < (↑(List.length s) : Int)) ∧ condP (decide ((↑(UInt8.toNat (List.getD s (Int.toNat ((↑a : Int) + (↑c : Int))) (0 : UInt8))) : Int) ≤ (57 : Int))) (inR .i64 ((↑a : Int) + (↑c : Int) - (↑a : Int)) ∧ condP (decide ((↑a : Int) + (↑c : Int) - (↑a : Int) < (2 : Int))) (inR .i64 ((10 : Int) * nv s a c) ∧ ((0 : Int) ≤ (↑a : Int) + (↑c : Int) ∧ (↑a : Int) + (↑c : Int) < (↑(List.length s) : Int)) ∧ inR .i64 (((↑(UInt8.toNat (List.getD s (Int.toNat ((↑a : Int) + (↑c : Int))) (0 : UInt8))) : Int) - (48 : Int)) % (256 : Int)) ∧ inR .i64 ((10 : Int) * nv s a c + ((↑(UInt8.toNat (List.getD s (Int.toNat ((↑a : Int) + (↑c : Int))) (0 : UInt8))) : Int) - (48 : Int)) % (256 : Int)) ∧ inR .i64 ((↑a : Int) + (↑c : Int) + (1 : Int)) ∧ ∃ (i' : Nat), (TEq [(0, .str s), (4, .own 0 k), (5, .int .i64 ((↑a : Int) + (↑c : Int) + (1 : Int))), (6, .int .i64 ((10 : Int) * nv s a c + ((↑(UInt8.toNat (List.getD s (Int.toNat ((↑a : Int) + (↑c : Int))) (0 : UInt8))) : Int) - (48 : Int)) % (256 : Int))), (7, .int .i64 (↑a : Int))] [(0, .str s), (4, .own 0 k), (5, .int .i64 ((↑a : Int) + (↑i' : Int))), (6, .int .i64 (nv s a i')), (7, .int .i64 (↑a : Int))] ∧ RowsEq [(0, .row 3 1 k (fun (i : Nat) => [.int .i64 (v i)]) false)] [(0, .row 3 1 k (fun (i : Nat) => [.int .i64 (v i)]) false)]) ∧ P i') ((∀ (i : Nat), i < k → true = true) ∧ ∃ (O' : List (Nat × AObj)), RowsEq [(0, .row 3 1 k (fun (i : Nat) => [.int .i64 (v i)]) false)] O' ∧ R (.exit 2) (St.mk [(0, .str s), (4, .own 0 k), (5, .int .i64 ((↑a : Int) + (↑c : Int))), (6, .int .i64 (nv s a c)), (7, .int .i64 (↑a : Int))] O' 1 []))) ((∀ (i : Nat), i < k → true = true) ∧ ∃ (O' : List (Nat × AObj)), RowsEq [(0, .row 3 1 k (fun (i : Nat) => [.int .i64 (v i)]) false)] O' ∧ R (.exit 2) (St.mk [(0, .str s), (4, .own 0 k), (5, .int .i64 ((↑a : Int) + (↑c : Int))), (6, .int .i64 (nv s a c)), (7, .int .i64 (↑a : Int))] O' 1 []))) ((∀ (i : Nat), i < k → true = true) ∧ ∃ (O' : List (Nat × AObj)), RowsEq [(0, .row 3 1 k (fun (i : Nat) => [.int .i64 (v i)]) false)] O' ∧ R (.exit 2) (St.mk [(0, .str s), (4, .own 0 k), (5, .int .i64 ((↑a : Int) + (↑c : Int))), (6, .int .i64 (nv s a c)), (7, .int .i64 (↑a : Int))] O' 1 []))) ((∀ (i : Nat), i < k → true = true) ∧ ∃ (O' : List (Nat × AObj)), RowsEq [(0, .row 3 1 k (fun (i : Nat) => [.int .i64 (v i)]) false)] O' ∧ R (.exit 2) (St.mk [(0, .str s), (4, .own 0 k), (5, .int .i64 ((↑a : Int) + (↑c : Int))), (6, .int .i64 (nv s a c)), (7, .int .i64 (↑a : Int))] O' 1 []))) := by kernel_rfl
theorem nf_rp (s : List UInt8) (R : AV → List (Nat × AObj) → Prop) : wpFn te [] [(3, L_rp s)] 0 Tryd.f40 [.str s] [] R = ((TEq [(0, .str s), (4, .own 0 0), (5, .int .i64 0)] [(0, .str s), (4, .own 0 0), (5, .int .i64 (↑(PIx.a (PIx.mk 0 0 fun (x : Nat) => (0 : Int))) : Int))] ∧ RowsEq [(0, .row 3 1 0 (fun (x : Nat) => []) false)] [(0, .row 3 1 0 (fun (j : Nat) => [.int .i64 (PIx.v (PIx.mk 0 0 fun (x : Nat) => (0 : Int)) j)]) false)]) ∧ List.length s < 4294967281 ∧ condP (parseOK s) ((∀ (i : Nat), i < List.length (words s) → true = true) ∧ ∃ (O' : List (Nat × AObj)), RowsEq [(0, .row 3 1 (List.length (words s)) (fun (i : Nat) => [.int .i64 (wordV s i)]) false)] O' ∧ R (.tuple [.own 0 (List.length (words s)), .int .i64 0]) O') (R (.tuple [.nil, .int .i64 60]) [])) := by kernel_rfl
theorem nf_rp_round (s : List UInt8) (k a : Nat) (v : Nat → Int) (P : PIx → Prop) (R : Exit → St → Prop) : roundP ⟨te, [], [(4, L_in s k v a)], 0, 90, 0⟩ (loopB Tryd.f40 3) [0, 4, 5] [] [2, 3] (S_rp s) P R (S_rp s ⟨k, a, v⟩) = ((TEq [(0, .str s), (4, .own 0 (PIx.k (PIx.mk k a v))), (5, .int .i64 (↑(PIx.a (PIx.mk k a v)) : Int)), (6, .int .i64 0), (7, .int .i64 (↑(PIx.a (PIx.mk k a v)) : Int))] [(0, .str s), (4, .own 0 k), (5, .int .i64 ((↑a : Int) + (↑0 : Int))), (6, .int .i64 (nv s a 0)), (7, .int .i64 (↑a : Int))] ∧ RowsEq [(0, .row 3 1 (PIx.k (PIx.mk k a v)) (fun (j : Nat) => [.int .i64 (PIx.v (PIx.mk k a v) j)]) false)] [(0, .row 3 1 k (fun (i : Nat) => [.int .i64 (v i)]) false)]) ∧ a ≤ List.length s ∧ List.length s < 4294967281 ∧ condP (decide ((↑a : Int) + (↑(Prod.snd (numAt (List.drop a s))) : Int) = (↑a : Int))) (R .ret (St.mk [(2, .nil), (3, .int .i64 60)] [] 0 [])) (condP (decide ((↑(Prod.fst (numAt (List.drop a s))) : Int) = (0 : Int))) (R .ret (St.mk [(2, .nil), (3, .int .i64 60)] [] 0 [])) (condP (decide ((↑k : Int) = (0 : Int))) (inR .i64 ((↑a : Int) + (↑(Prod.snd (numAt (List.drop a s))) : Int) - (↑a : Int)) ∧ condP (!decide ((↑a : Int) + (↑(Prod.snd (numAt (List.drop a s))) : Int) - (↑a : Int) = (2 : Int))) (R .ret (St.mk [(2, .nil), (3, .int .i64 60)] [] 0 [])) (condP (decide ((0 : Int) < (↑k : Int))) (((0 : Int) ≤ (↑a : Int) ∧ (↑a : Int) < (↑(List.length s) : Int)) ∧ condP (decide ((↑(UInt8.toNat (List.getD s (Int.toNat (↑a : Int)) (0 : UInt8))) : Int) = (48 : Int))) (R .ret (St.mk [(2, .nil), (3, .int .i64 60)] [] 0 [])) (condP (decide ((↑k : Int) = (5 : Int))) (R .ret (St.mk [(2, .nil), (3, .int .i64 60)] [] 0 [])) ((1 ≤ 16777216 ∧ 1 = 1 ∧ 1 ≤ 9223372036854775807) ∧ ((1 ≤ 1 ∧ 1 = 1) ∧ k ≤ k ∧ 1 = 1 ∧ 3 = 3 ∧ 1 = 1 ∧ k + 1 ≤ 9223372036854775807 ∧ (k + 1) * TI.bytes (TI.mk (TypeDesc.int IntKind.i64) 1 8 (Value.int IntKind.i64 0) false) ≤ 140737488355328) ∧ condP (decide ((↑a : Int) + (↑(Prod.snd (numAt (List.drop a s))) : Int) = (↑(List.length s) : Int))) ((∀ (i : Nat), i < k + 1 → nrefL (apF k (fun (i : Nat) => [.int .i64 (v i)]) (chunkA (TI.sz (TI.mk (TypeDesc.int IntKind.i64) 1 8 (Value.int IntKind.i64 0) false)) (.int .i64 (↑(Prod.fst (numAt (List.drop a s))) : Int) :: List.append [] (List.flatten (List.replicate (nat_lit 0) [.int .i64 0])))) i) = true) ∧ ∃ (O' : List (Nat × AObj)), RowsEq [(0, .row 3 1 (k + 1) (apF k (fun (i : Nat) => [.int .i64 (v i)]) (chunkA (TI.sz (TI.mk (TypeDesc.int IntKind.i64) 1 8 (Value.int IntKind.i64 0) false)) (.int .i64 (↑(Prod.fst (numAt (List.drop a s))) : Int) :: List.append [] (List.flatten (List.replicate (nat_lit 0) [.int .i64 0]))))) false)] O' ∧ R .ret (St.mk [(2, .own 0 (k + 1)), (3, .int .i64 0)] O' 1 [])) (((0 : Int) ≤ (↑a : Int) + (↑(Prod.snd (numAt (List.drop a s))) : Int) ∧ (↑a : Int) + (↑(Prod.snd (numAt (List.drop a s))) : Int) < (↑(List.length s) : Int)) ∧ condP (!decide ((↑(UInt8.toNat (List.getD s (Int.toNat ((↑a : Int) + (↑(Prod.snd (numAt (List.drop a s))) : Int))) (0 : UInt8))) : Int) = (46 : Int))) (R .ret (St.mk [(2, .nil), (3, .int .i64 60)] [] 0 [])) (inR .i64 ((↑a : Int) + (↑(Prod.snd (numAt (List.drop a s))) : Int) + (1 : Int)) ∧ ∃ (i' : PIx), (TEq [(0, .str s), (4, .own 0 (k + 1)), (5, .int .i64 ((↑a : Int) + (↑(Prod.snd (numAt (List.drop a s))) : Int) + (1 : Int)))] [(0, .str s), (4, .own 0 (PIx.k i')), (5, .int .i64 (↑(PIx.a i') : Int))] ∧ RowsEq [(0, .row 3 1 (k + 1) (apF k (fun (i : Nat) => [.int .i64 (v i)]) (chunkA (TI.sz (TI.mk (TypeDesc.int IntKind.i64) 1 8 (Value.int IntKind.i64 0) false)) (.int .i64 (↑(Prod.fst (numAt (List.drop a s))) : Int) :: List.append [] (List.flatten (List.replicate (nat_lit 0) [.int .i64 0]))))) false)] [(0, .row 3 1 (PIx.k i') (fun (j : Nat) => [.int .i64 (PIx.v i' j)]) false)]) ∧ P i'))))) (condP (decide ((↑k : Int) = (5 : Int))) (R .ret (St.mk [(2, .nil), (3, .int .i64 60)] [] 0 [])) ((1 ≤ 16777216 ∧ 1 = 1 ∧ 1 ≤ 9223372036854775807) ∧ ((1 ≤ 1 ∧ 1 = 1) ∧ k ≤ k ∧ 1 = 1 ∧ 3 = 3 ∧ 1 = 1 ∧ k + 1 ≤ 9223372036854775807 ∧ (k + 1) * TI.bytes (TI.mk (TypeDesc.int IntKind.i64) 1 8 (Value.int IntKind.i64 0) false) ≤ 140737488355328) ∧ condP (decide ((↑a : Int) + (↑(Prod.snd (numAt (List.drop a s))) : Int) = (↑(List.length s) : Int))) ((∀ (i : Nat), i < k + 1 → nrefL (apF k (fun (i : Nat) => [.int .i64 (v i)]) (chunkA (TI.sz (TI.mk (TypeDesc.int IntKind.i64) 1 8 (Value.int IntKind.i64 0) false)) (.int .i64 (↑(Prod.fst (numAt (List.drop a s))) : Int) :: List.append [] (List.flatten (List.replicate (nat_lit 0) [.int .i64 0])))) i) = true) ∧ ∃ (O' : List (Nat × AObj)), RowsEq [(0, .row 3 1 (k + 1) (apF k (fun (i : Nat) => [.int .i64 (v i)]) (chunkA (TI.sz (TI.mk (TypeDesc.int IntKind.i64) 1 8 (Value.int IntKind.i64 0) false)) (.int .i64 (↑(Prod.fst (numAt (List.drop a s))) : Int) :: List.append [] (List.flatten (List.replicate (nat_lit 0) [.int .i64 0]))))) false)] O' ∧ R .ret (St.mk [(2, .own 0 (k + 1)), (3, .int .i64 0)] O' 1 [])) (((0 : Int) ≤ (↑a : Int) + (↑(Prod.snd (numAt (List.drop a s))) : Int) ∧ (↑a : Int) + (↑(Prod.snd (numAt (List.drop a s))) : Int) < (↑(List.length s) : Int)) ∧ condP (!decide ((↑(UInt8.toNat (List.getD s (Int.toNat ((↑a : Int) + (↑(Prod.snd (numAt (List.drop a s))) : Int))) (0 : UInt8))) : Int) = (46 : Int))) (R .ret (St.mk [(2, .nil), (3, .int .i64 60)] [] 0 [])) (inR .i64 ((↑a : Int) + (↑(Prod.snd (numAt (List.drop a s))) : Int) + (1 : Int)) ∧ ∃ (i' : PIx), (TEq [(0, .str s), (4, .own 0 (k + 1)), (5, .int .i64 ((↑a : Int) + (↑(Prod.snd (numAt (List.drop a s))) : Int) + (1 : Int)))] [(0, .str s), (4, .own 0 (PIx.k i')), (5, .int .i64 (↑(PIx.a i') : Int))] ∧ RowsEq [(0, .row 3 1 (k + 1) (apF k (fun (i : Nat) => [.int .i64 (v i)]) (chunkA (TI.sz (TI.mk (TypeDesc.int IntKind.i64) 1 8 (Value.int IntKind.i64 0) false)) (.int .i64 (↑(Prod.fst (numAt (List.drop a s))) : Int) :: List.append [] (List.flatten (List.replicate (nat_lit 0) [.int .i64 0]))))) false)] [(0, .row 3 1 (PIx.k i') (fun (j : Nat) => [.int .i64 (PIx.v i' j)]) false)]) ∧ P i')))))) (condP (decide ((0 : Int) < (↑k : Int))) (((0 : Int) ≤ (↑a : Int) ∧ (↑a : Int) < (↑(List.length s) : Int)) ∧ condP (decide ((↑(UInt8.toNat (List.getD s (Int.toNat (↑a : Int)) (0 : UInt8))) : Int) = (48 : Int))) (R .ret (St.mk [(2, .nil), (3, .int .i64 60)] [] 0 [])) (condP (decide ((↑k : Int) = (5 : Int))) (R .ret (St.mk [(2, .nil), (3, .int .i64 60)] [] 0 [])) ((1 ≤ 16777216 ∧ 1 = 1 ∧ 1 ≤ 9223372036854775807) ∧ ((1 ≤ 1 ∧ 1 = 1) ∧ k ≤ k ∧ 1 = 1 ∧ 3 = 3 ∧ 1 = 1 ∧ k + 1 ≤ 9223372036854775807 ∧ (k + 1) * TI.bytes (TI.mk (TypeDesc.int IntKind.i64) 1 8 (Value.int IntKind.i64 0) false) ≤ 140737488355328) ∧ condP (decide ((↑a : Int) + (↑(Prod.snd (numAt (List.drop a s))) : Int) = (↑(List.length s) : Int))) ((∀ (i : Nat), i < k + 1 → nrefL (apF k (fun (i : Nat) => [.int .i64 (v i)]) (chunkA (TI.sz (TI.mk (TypeDesc.int IntKind.i64) 1 8 (Value.int IntKind.i64 0) false)) (.int .i64 (↑(Prod.fst (numAt (List.drop a s))) : Int) :: List.append [] (List.flatten (List.replicate (nat_lit 0) [.int .i64 0])))) i) = true) ∧ ∃ (O' : List (Nat × AObj)), RowsEq [(0, .row 3 1 (k + 1) (apF k (fun (i : Nat) => [.int .i64 (v i)]) (chunkA (TI.sz (TI.mk (TypeDesc.int IntKind.i64) 1 8 (Value.int IntKind.i64 0) false)) (.int .i64 (↑(Prod.fst (numAt (List.drop a s))) : Int) :: List.append [] (List.flatten (List.replicate (nat_lit 0) [.int .i64 0]))))) false)] O' ∧ R .ret (St.mk [(2, .own 0 (k + 1)), (3, .int .i64 0)] O' 1 [])) (((0 : Int) ≤ (↑a : Int) + (↑(Prod.snd (numAt (List.drop a s))) : Int) ∧ (↑a : Int) + (↑(Prod.snd (numAt (List.drop a s))) : Int) < (↑(List.length s) : Int)) ∧ condP (!decide ((↑(UInt8.toNat (List.getD s (Int.toNat ((↑a : Int) + (↑(Prod.snd (numAt (List.drop a s))) : Int))) (0 : UInt8))) : Int) = (46 : Int))) (R .ret (St.mk [(2, .nil), (3, .int .i64 60)] [] 0 [])) (inR .i64 ((↑a : Int) + (↑(Prod.snd (numAt (List.drop a s))) : Int) + (1 : Int)) ∧ ∃ (i' : PIx), (TEq [(0, .str s), (4, .own 0 (k + 1)), (5, .int .i64 ((↑a : Int) + (↑(Prod.snd (numAt (List.drop a s))) : Int) + (1 : Int)))] [(0, .str s), (4, .own 0 (PIx.k i')), (5, .int .i64 (↑(PIx.a i') : Int))] ∧ RowsEq [(0, .row 3 1 (k + 1) (apF k (fun (i : Nat) => [.int .i64 (v i)]) (chunkA (TI.sz (TI.mk (TypeDesc.int IntKind.i64) 1 8 (Value.int IntKind.i64 0) false)) (.int .i64 (↑(Prod.fst (numAt (List.drop a s))) : Int) :: List.append [] (List.flatten (List.replicate (nat_lit 0) [.int .i64 0]))))) false)] [(0, .row 3 1 (PIx.k i') (fun (j : Nat) => [.int .i64 (PIx.v i' j)]) false)]) ∧ P i'))))) (condP (decide ((↑k : Int) = (5 : Int))) (R .ret (St.mk [(2, .nil), (3, .int .i64 60)] [] 0 [])) ((1 ≤ 16777216 ∧ 1 = 1 ∧ 1 ≤ 9223372036854775807) ∧ ((1 ≤ 1 ∧ 1 = 1) ∧ k ≤ k ∧ 1 = 1 ∧ 3 = 3 ∧ 1 = 1 ∧ k + 1 ≤ 9223372036854775807 ∧ (k + 1) * TI.bytes (TI.mk (TypeDesc.int IntKind.i64) 1 8 (Value.int IntKind.i64 0) false) ≤ 140737488355328) ∧ condP (decide ((↑a : Int) + (↑(Prod.snd (numAt (List.drop a s))) : Int) = (↑(List.length s) : Int))) ((∀ (i : Nat), i < k + 1 → nrefL (apF k (fun (i : Nat) => [.int .i64 (v i)]) (chunkA (TI.sz (TI.mk (TypeDesc.int IntKind.i64) 1 8 (Value.int IntKind.i64 0) false)) (.int .i64 (↑(Prod.fst (numAt (List.drop a s))) : Int) :: List.append [] (List.flatten (List.replicate (nat_lit 0) [.int .i64 0])))) i) = true) ∧ ∃ (O' : List (Nat × AObj)), RowsEq [(0, .row 3 1 (k + 1) (apF k (fun (i : Nat) => [.int .i64 (v i)]) (chunkA (TI.sz (TI.mk (TypeDesc.int IntKind.i64) 1 8 (Value.int IntKind.i64 0) false)) (.int .i64 (↑(Prod.fst (numAt (List.drop a s))) : Int) :: List.append [] (List.flatten (List.replicate (nat_lit 0) [.int .i64 0]))))) false)] O' ∧ R .ret (St.mk [(2, .own 0 (k + 1)), (3, .int .i64 0)] O' 1 [])) (((0 : Int) ≤ (↑a : Int) + (↑(Prod.snd (numAt (List.drop a s))) : Int) ∧ (↑a : Int) + (↑(Prod.snd (numAt (List.drop a s))) : Int) < (↑(List.length s) : Int)) ∧ condP (!decide ((↑(UInt8.toNat (List.getD s (Int.toNat ((↑a : Int) + (↑(Prod.snd (numAt (List.drop a s))) : Int))) (0 : UInt8))) : Int) = (46 : Int))) (R .ret (St.mk [(2, .nil), (3, .int .i64 60)] [] 0 [])) (inR .i64 ((↑a : Int) + (↑(Prod.snd (numAt (List.drop a s))) : Int) + (1 : Int)) ∧ ∃ (i' : PIx), (TEq [(0, .str s), (4, .own 0 (k + 1)), (5, .int .i64 ((↑a : Int) + (↑(Prod.snd (numAt (List.drop a s))) : Int) + (1 : Int)))] [(0, .str s), (4, .own 0 (PIx.k i')), (5, .int .i64 (↑(PIx.a i') : Int))] ∧ RowsEq [(0, .row 3 1 (k + 1) (apF k (fun (i : Nat) => [.int .i64 (v i)]) (chunkA (TI.sz (TI.mk (TypeDesc.int IntKind.i64) 1 8 (Value.int IntKind.i64 0) false)) (.int .i64 (↑(Prod.fst (numAt (List.drop a s))) : Int) :: List.append [] (List.flatten (List.replicate (nat_lit 0) [.int .i64 0]))))) false)] [(0, .row 3 1 (PIx.k i') (fun (j : Nat) => [.int .i64 (PIx.v i' j)]) false)]) ∧ P i')))))))) := by kernel_rfl

theorem in_exit {s : List UInt8} {a c : Nat} (hc : c ≤ 2) (hl : a + c ≤ s.length) (hd : ∀ j, j < c → dig (s.getD (a + j) 0) = true) (hx : c = 2 ∨ a + c = s.length ∨ dig (s.getD (a + c) 0) = false) : (numAt (s.drop a)).2 = c ∧ ((numAt (s.drop a)).1 : Int) = nv s a c := by
  match c with
  | 0 =>
    rw [numAt_none (s := s) (a := a) (hx.elim (fun h => by omega) fun h => h.elim (fun h => .inl (by omega)) fun h => .inr h)]
    exact ⟨rfl, rfl⟩
  | 1 =>
    have h0 := hd 0 (by omega)
    rw [numAt_one (s := s) (a := a) (by omega) h0 (hx.elim (fun h => by omega) id)]
    have := (dig_iff _).1 h0
    refine ⟨rfl, ?_⟩
    simp only [nv, dg, Nat.add_zero] at this ⊢
    omega
  | 2 =>
    have h0 := hd 0 (by omega)
    have h1 := hd 1 (by omega)
    rw [numAt_two (s := s) (a := a) (by omega) h0 h1]
    have := (dig_iff _).1 h0
    have := (dig_iff _).1 h1
    refine ⟨rfl, ?_⟩
    simp only [nv, dg, Nat.add_zero] at *
    omega

theorem rp_in (hP : C.P = Tryd.prog) (s : List UInt8) (k : Nat) (v : Nat → Int) (a : Nat) : LoopOK C 0 90 (loopC Tryd.f40 4) (L_in s k v a) := by
  rintro st Q ⟨h0, ha, hs, hQ⟩
  refine LoopOK.mk (prg hP) [] 0 .nil [0, 4, 5, 6, 7] [0, 4, 5, 6, 7] [] (S_in s k v a) (fun c => c ≤ 2 ∧ a + c ≤ s.length ∧ ∀ j, j < c → dig (s.getD (a + j) 0) = true) (fun c => 2 - c) 0 ⟨by omega, by omega, fun j hj => by omega⟩ h0 (fun c hc => ?_) (fun i => ⟨fun _ _ => rfl, trivial⟩)
  obtain ⟨hc2, hl, hd⟩ := hc
  rw [nf_rp_in]
  have hex : (c = 2 ∨ a + c = s.length ∨ dig (s.getD (a + c) 0) = false) → ((∀ (i : Nat), i < k → true = true) ∧ ∃ (O' : List (Nat × AObj)), RowsEq [(0, .row 3 1 k (fun (i : Nat) => [.int .i64 (v i)]) false)] O' ∧ Q (.exit 2) (St.mk [(0, .str s), (4, .own 0 k), (5, .int .i64 ((a : Int) + (c : Int))), (6, .int .i64 (nv s a c)), (7, .int .i64 (a : Int))] O' 1 [])) := by
    intro hx
    obtain ⟨e1, e2⟩ := in_exit hc2 hl hd hx
    rw [e1, e2] at hQ
    exact ⟨fun _ _ => rfl, _, rowsEq1, hQ⟩
  have et : ((a : Int) + (c : Int)).toNat = a + c := by omega
  refine condP_dec (fun h1 => ?_) (fun h1 => hex (.inr (.inl (by omega))))
  have hb := (s.getD (a + c) 0).toNat_lt
  rw [et]
  refine ⟨⟨by omega, by omega⟩, condP_dec (fun h2 => ?_) (fun h2 => hex (.inr (.inr (dig_no _ (by omega)))))⟩
  refine ⟨⟨by omega, by omega⟩, condP_dec (fun h3 => ?_) (fun h3 => hex (.inr (.inr (dig_no _ (by omega)))))⟩
  refine ⟨by simp only [inR]; omega, condP_dec (fun h4 => ?_) (fun h4 => hex (.inl (by omega)))⟩
  have hdg : dig (s.getD (a + c) 0) = true := (dig_iff _).2 ⟨by omega, by omega⟩
  have hnv : 0 ≤ nv s a c ∧ nv s a c ≤ 9 ∧ (10 : Int) * nv s a c + (((s.getD (a + c) 0).toNat : Int) - 48) % 256 = nv s a (c + 1) := by
    match c with
    | 0 =>
      simp only [nv, dg, Nat.add_zero] at *
      omega
    | 1 =>
      have h := (dig_iff _).1 (hd 0 (by omega))
      simp only [nv, dg, Nat.add_zero] at *
      omega
    | c + 2 => omega
  refine ⟨by simp only [inR]; omega, ⟨by omega, by omega⟩, by simp only [inR]; omega, by simp only [inR]; omega, by simp only [inR]; omega, c + 1, ⟨?_, rowsEq1⟩, ⟨by omega, by omega, fun j hj => ?_⟩, by omega⟩
  · rw [hnv.2.2, show (a : Int) + c + 1 = (a : Int) + ((c + 1 : Nat) : Int) by omega]; rfl
  · by_cases hjc : j = c
    · subst hjc; exact hdg
    · exact hd j (by omega)

theorem rp_loop (hP : C.P = Tryd.prog) (s : List UInt8) : LoopOK C 0 90 (loopC Tryd.f40 3) (L_rp s) := by
  rintro st Q ⟨h0, hs, hQ⟩
  have hR := condP_elim hQ
  have hpp := parse_pref s
  refine AWP.ownNil 4 3 1 ?_
  have hfail : ∀ i : PIx, i.k ≤ 5 → pref 6 0 s = (pref (6 - i.k) i.k (s.drop i.a)).map (fun l => (List.range i.k).map i.v ++ l) → pref (6 - i.k) i.k (s.drop i.a) = none → parseOK s = false := by
    intro i _ h1 h2
    rw [h2] at h1
    rw [h1] at hpp
    exact hpp
  refine LoopOK.mkI (prg hP) [] (fun i : PIx => [(4, L_in s i.k i.v i.a)]) 0 .nil (fun i => [(loopC Tryd.f40 4, L_in s i.k i.v i.a)]) (fun i => by kernel_rfl) (fun i => ⟨rp_in hP s i.k i.v i.a, trivial⟩) [0, 4, 5] [] [2, 3] (S_rp s) (fun i => i.k ≤ 5 ∧ i.a ≤ s.length ∧ pref 6 0 s = (pref (6 - i.k) i.k (s.drop i.a)).map (fun l => (List.range i.k).map i.v ++ l)) (fun i => s.length - i.a) ⟨0, 0, fun _ => 0⟩ ⟨Nat.zero_le _, Nat.zero_le _, ?_⟩ h0 (fun i hi => ?_) (fun i => ⟨fun _ _ => rfl, trivial⟩)
  · show pref 6 0 s = (pref 6 0 s).map (fun l => l)
    cases pref 6 0 s <;> rfl
  · obtain ⟨k, a, v⟩ := i
    obtain ⟨hk, ha, hpr⟩ := hi
    dsimp only at hk ha hpr
    have hf := hfail ⟨k, a, v⟩ hk hpr
    dsimp only at hf
    obtain ⟨f, hf6⟩ : ∃ f, 6 - k = f + 1 := ⟨5 - k, by omega⟩
    rw [hf6] at hf hpr
    have hle := numAt_le (s.drop a)
    rw [List.length_drop] at hle
    have hnone : noPart k (s.drop a) = true → Q .ret ⟨[(2, .nil), (3, .int .i64 60)], [], 0, []⟩ := by
      intro h
      exact hR.2 (hf (by unfold pref; rw [h]))
    have hg := getD_drop s a 0
    rw [Nat.add_zero] at hg
    have hsome : noPart k (s.drop a) = false → pref (f + 1) k (s.drop a) = match (s.drop a).drop (numAt (s.drop a)).2 with
        | [] => some [((numAt (s.drop a)).1 : Int)]
        | b :: r' => match decide (b.toNat = 46) with
          | true => match pref f (k + 1) r' with
            | some l => some (((numAt (s.drop a)).1 : Int) :: l)
            | none => none
          | false => none := by
      intro h
      conv => lhs; unfold pref
      rw [h]
      try rfl
    unfold noPart at hnone hsome
    rw [hg] at hnone hsome
    rw [nf_rp_round]
    generalize numAt (s.drop a) = nl at hle hnone hsome ⊢
    obtain ⟨n, len⟩ := nl
    dsimp only at hle hnone hsome ⊢
    rw [List.drop_drop] at hsome
    have ea : ((a : Int)).toNat = a := rfl
    have eal : ((a : Int) + (len : Int)).toNat = a + len := by omega
    rw [ea, eal]
    have hrow : ∀ i, i < k + 1 → apF k (fun i => [AV.int .i64 (v i)]) (chunkA (TI.sz (TI.mk (TypeDesc.int IntKind.i64) 1 8 (Value.int IntKind.i64 0) false)) (.int .i64 (n : Int) :: List.append [] (List.flatten (List.replicate (nat_lit 0) [.int .i64 0])))) i = [.int .i64 (if i < k then v i else n)] := by
      intro i hi
      unfold apF
      split
      · rfl
      · have : i = k := by omega
        subst this
        rw [Nat.sub_self]; rfl
    have hmap : (List.range (k + 1)).map (fun i => if i < k then v i else (n : Int)) = (List.range k).map v ++ [(n : Int)] := by
      rw [List.range_succ, List.map_append]
      congr 1
      · apply List.map_congr_left
        intro i hi
        have := List.mem_range.1 hi
        simp [this]
      · simp
    refine ⟨⟨?_, rowsEq1⟩, ha, hs, condP_dec (fun h1 => hnone ?_) (fun h1 => condP_dec (fun h2 => hnone ?_) (fun h2 => condP_dec (fun h3 => ⟨by simp only [inR]; omega, condP_ndec (fun h4 => hnone ?_) (fun h4 => condP_dec (fun h5 => ?_) (fun h5 => ?_))⟩) (fun h3 => condP_dec (fun h5 => ⟨⟨by omega, by omega⟩, condP_dec (fun h6 => hnone ?_) (fun h6 => ?_)⟩) (fun h5 => ?_))))⟩
    all_goals try (exfalso; omega)
    · simp [TEq, nv]
    · rw [decide_eq_true (show len = 0 by omega)]; rfl
    · rw [decide_eq_true (show n = 0 by omega), Bool.or_true]; rfl
    · rw [decide_eq_true (show k = 0 by omega), decide_eq_false (show ¬ len = 2 by omega)]; simp
    rotate_left
    · rw [decide_eq_true (show 0 < k by omega), decide_eq_true (show (s.getD a 0).toNat = 48 by omega)]; simp
    all_goals
      refine condP_dec (fun h7 => hnone ?_) (fun h7 => ?_)
      · rw [decide_eq_true (show k = 5 by omega), Bool.or_true]
      have hp := hsome (by
        simp only [Bool.or_eq_false_iff, decide_eq_false_iff_not, Bool.and_eq_false_iff, Bool.not_eq_false', decide_eq_true_iff]
        omega)
      clear hnone hsome
      have hbyte : (k + 1) * TI.bytes (TI.mk (TypeDesc.int IntKind.i64) 1 8 (Value.int IntKind.i64 0) false) = (k + 1) * 8 := rfl
      refine ⟨⟨by omega, rfl, by omega⟩, ⟨⟨⟨by omega, rfl⟩, Nat.le_refl _, rfl, rfl, rfl, by omega, by rw [hbyte]; omega⟩, condP_dec (fun h8 => ?_) (fun h8 => ?_)⟩⟩
      · rw [List.drop_eq_nil_of_le (show s.length ≤ a + len by omega)] at hp
        dsimp only at hp
        rw [hp] at hpr
        rw [hpr] at hpp
        obtain ⟨q1, q2, q3⟩ := hpp
        have hA := hR.1 q1
        have hlen : ((List.range k).map v ++ [(n : Int)]).length = k + 1 := by simp
        rw [hlen] at q2 q3
        rw [q2] at hA
        refine ⟨fun i hi => ?_, _, ?_, hA⟩
        · rw [hrow i hi]; rfl
        · refine ⟨⟨rfl, rfl, rfl, rfl, rfl, fun i hi => ?_⟩, trivial⟩
          refine (hrow i hi).trans ?_
          show _ = [AV.int .i64 (wordV s i)]
          have q4 : wordV s i = ((List.range k).map v ++ [(n : Int)]).getD i 0 := q3 i hi
          rw [q4, ← hmap]
          simp [List.getD, hi]
      · rw [List.drop_eq_getElem_cons (show a + len < s.length by omega)] at hp
        have hge : s.getD (a + len) 0 = s[a + len] := by rw [List.getD, List.getElem?_eq_getElem (by omega)]; rfl
        refine ⟨⟨by omega, by omega⟩, condP_ndec (fun h9 => ?_) (fun h9 => ?_)⟩
        · refine hR.2 (hf ?_)
          rw [hp]
          dsimp only
          rw [← hge, decide_eq_false (by omega)]
        · dsimp only at hp
          rw [← hge, decide_eq_true (by omega)] at hp
          dsimp only at hp
          refine ⟨by simp only [inR]; omega, ⟨k + 1, a + len + 1, fun i => if i < k then v i else n⟩, ⟨?_, ⟨rfl, rfl, rfl, rfl, rfl, fun i hi => hrow i hi⟩, trivial⟩, ⟨by show k + 1 ≤ 5; omega, by show a + len + 1 ≤ s.length; omega, ?_⟩, by show s.length - (a + len + 1) < s.length - a; omega⟩
          · show TEq [(0, .str s), (4, .own 0 (k + 1)), (5, .int .i64 ((a : Int) + (len : Int) + 1))] [(0, .str s), (4, .own 0 (k + 1)), (5, .int .i64 ((a + len + 1 : Nat) : Int))]
            rw [show (a : Int) + (len : Int) + 1 = ((a + len + 1 : Nat) : Int) by omega]
            rfl
          · show pref 6 0 s = (pref (6 - (k + 1)) (k + 1) (s.drop (a + len + 1))).map (fun l => (List.range (k + 1)).map (fun i => if i < k then v i else (n : Int)) ++ l)
            rw [show 6 - (k + 1) = f by omega, hpr, hp, hmap]
            cases pref f (k + 1) (s.drop (a + len + 1)) <;> simp

theorem rp_ok (hP : C.P = Tryd.prog) : RSpecOK C 40 R_parse := by
  rintro args objs R h
  unfold R_parse at h
  split at h
  · rename_i s
    obtain ⟨hs, hR⟩ := h
    have hR := condP_elim hR
    refine RSpecOK.wpL (prg hP) [] [(3, L_rp s)] 0 .nil (hP ▸ Tryd.func40) rfl rfl rfl
      [(loopC Tryd.f40 3, L_rp s)] (by kernel_rfl) ⟨rp_loop hP s, trivial⟩ ?_
    rw [nf_rp]
    refine ⟨⟨rfl, ⟨rfl, rfl, rfl, rfl, rfl, fun i hi => by omega⟩, trivial⟩, hs, ?_⟩
    refine condP_intro (fun h => ⟨fun _ _ => rfl, _, rowsEq1, hR.1 h⟩) hR.2
  · exact h.elim

end Go.Eng

