/- Concat and Merge at messages: the loops' states. -/
import Derived.Test.YtgcboligphndhaaGreatDoorEn
import Derived.Test.YtgcboligphndhaaGreatDoorEl
namespace Go.Eng
def OKat (s : List UInt8) (k : Nat) : Prop := (97 ≤ (s.getD k 0).toNat ∧ (s.getD k 0).toNat ≤ 122) ∨ (48 ≤ (s.getD k 0).toNat ∧ (s.getD k 0).toNat ≤ 57) ∨ (k ≠ 0 ∧ ((s.getD k 0).toNat = 45 ∨ (s.getD k 0).toNat = 46))
def S_nrState (s : List UInt8) (k : Nat) : St := ⟨[(0, .str s), (6, .int .i64 s.length), (7, .int .i64 k)], [], 0, []⟩
def L_nameR (s : List UInt8) : LSpec := fun st Q => canonIs te 0 [0, 6, 7] st (S_nrState s 0) ∧ ((∀ k, k < s.length → OKat s k) → Q (.exit 0) ⟨[(0, .str s)], [], 0, []⟩) ∧ (∀ k, k < s.length → ¬ OKat s k → Q .ret ⟨[(2, .bool false)], [], 0, []⟩)
def S_nameR : Spec
  | [.str s], [] => some (.bool (nameF s), [], s.length ≤ 9223372036854775806)
  | _, _ => none
theorem nameF_iff (s : List UInt8) : nameF s = true ↔ (1 ≤ s.length ∧ s.length ≤ 24) ∧ ∀ k, k < s.length → OKat s k := by
  have hlet : ∀ b : UInt8, isLet b = true ↔ (97 ≤ b.toNat ∧ b.toNat ≤ 122) ∨ (48 ≤ b.toNat ∧ b.toNat ≤ 57) := by intro b; simp [isLet]
  have hnb : ∀ b : UInt8, isNB b = true ↔ ((97 ≤ b.toNat ∧ b.toNat ≤ 122) ∨ (48 ≤ b.toNat ∧ b.toNat ≤ 57)) ∨ b.toNat = 45 ∨ b.toNat = 46 := by
    intro b; rw [← hlet]; simp [isNB, or_assoc]
  unfold nameF
  simp only [Bool.and_eq_true, decide_eq_true_eq, hlet, List.all_eq_true, hnb]
  constructor
  · rintro ⟨⟨⟨h1, h2⟩, h3⟩, h4⟩
    refine ⟨⟨h1, h2⟩, fun k hk => ?_⟩
    have := h4 (s.getD k 0) (by simp [List.getD, hk])
    by_cases h0 : k = 0
    · subst h0; unfold OKat; omega
    · unfold OKat; omega
  · rintro ⟨⟨h1, h2⟩, h3⟩
    refine ⟨⟨⟨h1, h2⟩, ?_⟩, fun b hb => ?_⟩
    · have := h3 0 (by omega); unfold OKat at this; omega
    · obtain ⟨j, hj, rfl⟩ := List.getElem_of_mem hb
      have := h3 j hj
      have e : s.getD j 0 = s[j] := by simp [List.getD, hj]
      unfold OKat at this
      rw [e] at this
      omega
def S_cdrState (s : List UInt8) (k : Nat) : St := ⟨[(0, .str s), (4, .int .i64 (cdSum s k)), (16, .int .i64 s.length), (17, .int .i64 k)], [], 0, []⟩
def L_checkDigitR (s : List UInt8) : LSpec := fun st Q => canonIs te 0 [0, 4, 16, 17] st (S_cdrState s 0) ∧ s.length ≤ 12 ∧ condP (s.all isDig) (Q (.exit 0) ⟨[(4, .int .i64 (cdSum s s.length))], [], 0, []⟩) (Q .ret ⟨[(2, .int .i64 0), (3, .bool false)], [], 0, []⟩)
theorem cdSum_boundk {s : List UInt8} : ∀ k, k ≤ s.length → (∀ j, j < k → 48 ≤ (s.getD j 0).toNat ∧ (s.getD j 0).toNat ≤ 57) → 0 ≤ cdSum s k ∧ cdSum s k ≤ 27 * k
  | 0, _, _ => by simp [cdSum]
  | k + 1, hk, h => by
    have ih := cdSum_boundk k (by omega) fun j hj => h j (by omega)
    have hd := h k (by omega)
    simp only [cdSum]
    rcases Int.emod_two_eq (↑s.length - ↑k) with e | e <;> rw [e] <;> omega
theorem all_isDig {s : List UInt8} (h : ∀ j, j < s.length → 48 ≤ (s.getD j 0).toNat ∧ (s.getD j 0).toNat ≤ 57) : s.all isDig = true := by
  refine List.all_eq_true.2 fun b hb => ?_
  obtain ⟨j, hj, rfl⟩ := List.getElem_of_mem hb
  have := h j hj
  have e : s.getD j 0 = s[j] := by simp [List.getD, hj]
  rw [e] at this
  simp [isDig, this.1, this.2]
theorem cdF_bound (s : List UInt8) : 0 ≤ (cdF s).1 ∧ (cdF s).1 ≤ 9 := by
  unfold cdF
  split
  · show 0 ≤ (10 - cdSum s s.length % 10) % 10 ∧ (10 - cdSum s s.length % 10) % 10 ≤ 9
    omega
  · exact ⟨by decide, by decide⟩
end Go.Eng
namespace Go.Eng
def qtyF (d c a : Int) : Int := bif decide (d < 1) then 80 else bif decide (4 < d) then 80 else bif decide (c < 1) then 81 else bif decide (100 < c) then 81 else bif decide (a < 1) then 82 else bif decide (Int.tdiv 1099511627776 c < a) then 82 else 0
def S_qty : Spec
  | [.agg [.int .i64 d, .int .i64 c, .int .i64 a]], [] => some (.int .i64 (qtyF d c a), [], True)
  | _, _ => none
theorem qty_bound {c : Int} (h1 : ¬ c < 1) (h2 : ¬ 100 < c) : c ≠ 0 ∧ inR .i64 (Int.tdiv 1099511627776 c) := by
  refine ⟨by omega, ?_⟩
  rw [Int.tdiv_eq_ediv_of_nonneg (by omega)]
  simp only [inR]
  have h3 : 0 ≤ 1099511627776 / c := Int.ediv_nonneg (by omega) (by omega)
  have h4 : 1099511627776 / c ≤ 1099511627776 := Int.ediv_le_self _ (by omega)
  omega
end Go.Eng
namespace Go.Eng
def levelV (s : List UInt8) : Int := match parseOK s with
  | true => (words s).length
  | false => match decide (s = []) with
    | true => 0
    | false => -1
def S_level : Spec
  | [.str s], [] => some (.int .i64 (levelV s), [], s.length < 4294967281)
  | _, _ => none
theorem levelV_lt (s : List UInt8) : decide (levelV s < 1) = !parseOK s := by
  unfold levelV
  cases h : parseOK s with
  | true =>
    have hn : 1 ≤ (words s).length := by rw [words_len]; omega
    have hlt : ¬ (((words s).length : Int) < 1) := by omega
    exact decide_eq_false hlt
  | false => cases decide (s = []) <;> rfl
def freshAt (nm : Nat → List UInt8) : Nat → Nat → Bool
  | 0, _ => true
  | j + 1, k => freshAt nm j k && !decide (nm k = nm j)
def atOK (nm vl : Nat → List UInt8) (k : Nat) : Bool := nameF (nm k) && nameF (vl k) && freshAt nm k k
def atsOK (nm vl : Nat → List UInt8) : Nat → Bool
  | 0 => true
  | k + 1 => atsOK nm vl k && atOK nm vl k
def valF (id code brand : List UInt8) (d c a : Int) (n : Nat) (nm vl : Nat → List UInt8) : Int :=
  bif !validIDF id then 90 else bif !parseOK code then 91 else bif !nameF brand then 92 else bif !decide (qtyF d c a = 0) then 93 else bif decide (12 < n) then 94 else bif atsOK nm vl n then 0 else 94
def nmOf (f : Nat → List AV) (i : Nat) : List UInt8 := strOf ((f i).getD 0 .any)
def vlOf (f : Nat → List AV) (i : Nat) : List UInt8 := strOf ((f i).getD 1 .any)
def atRow (nm vl : Nat → List UInt8) : Nat → List AV := fun i => [.str (nm i), .str (vl i)]
end Go.Eng
namespace Go.Eng
def seenM (nm : Nat → List UInt8) : Nat → List (AV × AV)
  | 0 => []
  | k + 1 => seenM nm k ++ [(.str (nm k), .bool true)]
theorem mget_seen (nm : Nat → List UInt8) (x : List UInt8) : ∀ j, mget (seenM nm j) (.str x) = bif (List.range j).any (fun i => decide (nm i = x)) then some (.bool true) else none
  | 0 => rfl
  | j + 1 => by
    have app : ∀ (l : List (AV × AV)) (k : AV) (p : AV × AV), mget (l ++ [p]) k = (mget l k).or (bif keq p.1 k then some p.2 else none) := by
      intro l k p
      induction l with
      | nil => simp only [List.nil_append, mget]; cases keq p.1 k <;> rfl
      | cons q l ih =>
        simp only [List.cons_append, mget]
        cases keq q.1 k with
        | true => rfl
        | false => exact ih
    rw [seenM, app, mget_seen nm x j, List.range_succ, List.any_append]
    simp only [List.any_cons, List.any_nil, Bool.or_false, keq]
    cases (List.range j).any (fun i => decide (nm i = x)) <;> cases decide (nm j = x) <;> rfl
theorem fresh_any (nm : Nat → List UInt8) (k : Nat) : ∀ j, freshAt nm j k = !(List.range j).any (fun i => decide (nm i = nm k))
  | 0 => rfl
  | j + 1 => by
    rw [freshAt, fresh_any nm k j, List.range_succ, List.any_append]
    simp only [List.any_cons, List.any_nil, Bool.or_false, Bool.not_or]
    congr 2
    simp only [eq_comm]
theorem mset_fresh (nm : Nat → List UInt8) (x : List UInt8) (v : AV) : ∀ j, (List.range j).any (fun i => decide (nm i = x)) = false → mset (seenM nm j) (.str x) v = seenM nm j ++ [(.str x, v)] := by
  have app : ∀ (l : List (AV × AV)) (k v : AV), (∀ p ∈ l, keq p.1 k = false) → mset l k v = l ++ [(k, v)] := by
    intro l k v h
    induction l with
    | nil => rfl
    | cons q l ih =>
      simp only [List.cons_append, mset]
      rw [h q (List.mem_cons_self ..), ih (fun p hp => h p (List.mem_cons_of_mem _ hp))]
  intro j hj
  apply app
  induction j with
  | zero => intro p hp; cases hp
  | succ j ih =>
    rw [List.range_succ, List.any_append, Bool.or_eq_false_iff] at hj
    intro p hp
    rw [seenM, List.mem_append] at hp
    rcases hp with hp | hp
    · exact ih hj.1 p hp
    · obtain rfl := List.mem_singleton.1 hp
      simpa [keq] using hj.2
theorem seen_keys (nm vl : Nat → List UInt8) : ∀ k, atsOK nm vl k = true → KeysOK .string (seenM nm k)
  | 0, _ => ⟨rfl, List.nodup_nil⟩
  | k + 1, h => by
    rw [atsOK, Bool.and_eq_true] at h
    obtain ⟨h1, h2⟩ := seen_keys nm vl k h.1
    have hf : freshAt nm k k = true := by
      have := h.2
      unfold atOK at this
      rw [Bool.and_eq_true] at this
      exact this.2
    rw [fresh_any, Bool.not_eq_true'] at hf
    have hmem : ∀ j, (List.range j).any (fun i => decide (nm i = nm k)) = false → AV.str (nm k) ∉ (seenM nm j).map Prod.fst := by
      intro j
      induction j with
      | zero => intro _ hm; cases hm
      | succ j ih =>
        intro hj hm
        rw [List.range_succ, List.any_append, Bool.or_eq_false_iff] at hj
        rw [seenM, List.map_append, List.mem_append] at hm
        rcases hm with hm | hm
        · exact ih hj.1 hm
        · have := List.mem_singleton.1 hm
          injection this with this
          have hj2 := hj.2
          simp [this.symm] at hj2
    refine ⟨?_, ?_⟩
    · rw [seenM, List.all_append, h1]; rfl
    · rw [seenM, List.map_append, List.nodup_append]
      refine ⟨h2, by simp, ?_⟩
      intro a ha b hb hab
      obtain rfl := List.mem_singleton.1 hb
      subst hab
      exact hmem k hf ha
theorem seen_rn (σ : Nat → Option Nat) (nm : Nat → List UInt8) : ∀ k, (seenM nm k).map (fun p => (p.1.rn σ, p.2.rn σ)) = seenM nm k
  | 0 => rfl
  | k + 1 => by rw [seenM, List.map_append, seen_rn σ nm k]; rfl
end Go.Eng
namespace Go.Eng
def S_valV : Spec
  | [.agg [.str id, .str code, .str brand, .int .i64 d, .int .i64 c, .int .i64 a, .view 2 n f]], [] => some (.int .i64 (valF id code brand d c a n (nmOf f) (vlOf f)), [],
      n ≤ 4294967281 ∧ code.length < 4294967281 ∧ brand.length < 4294967281 ∧ (∀ i, i < n → (nmOf f i).length < 4294967281 ∧ (vlOf f i).length < 4294967281) ∧ f = atRow (nmOf f) (vlOf f))
  | _, _ => none
def S_vw (n : Nat) (nm vl : Nat → List UInt8) (k : Nat) : St := ⟨[(3, .map 0), (33, .view 2 n (atRow nm vl)), (34, .int .i64 n), (35, .int .i64 k)], [(0, .amap (seenM nm k))], 1, []⟩
def L_vw (n : Nat) (nm vl : Nat → List UInt8) : LSpec := fun st Q => canonIs te 0 [3, 33, 34, 35] st (S_vw n nm vl 0) ∧ n ≤ 12 ∧ (∀ i, i < n → (nm i).length < 4294967281 ∧ (vl i).length < 4294967281) ∧
  condP (atsOK nm vl n) (Q (.exit 1) ⟨[], [], 0, []⟩) (Q .ret ⟨[(2, .int .i64 94)], [], 0, []⟩)
structure PW where
  id : List UInt8
  code : List UInt8
  brand : List UInt8
  d : Int
  c : Int
  a : Int
end Go.Eng
namespace Go.Eng
structure VT where
  o : List UInt8
  p : List UInt8
  per : Int
  day : Int
  st : Int
  pr : Int
  rep : List UInt8
  deriving Inhabited
structure DT where
  o : List UInt8
  p : List UInt8
  per : Int
  dev : List UInt8
  num : Int
  deriving Inhabited
structure MG where
  dev : List UInt8
  seq : Int
  kind : Int
  v : VT
  d : DT
  deriving Inhabited
structure RW where
  o : List UInt8
  p : List UInt8
  per : Int
  u : Int
  tv : Int
  deriving Inhabited
def slotF (o p : List UInt8) (per : Int) : Bool := nameF o && validIDF p && decide (0 ≤ per) && decide (per ≤ 5999)
def visF (v : VT) : Bool := slotF v.o v.p v.per && decide (0 ≤ v.day) && decide (v.day ≤ 182620) &&
  (bif decide (v.st = 1) || decide (v.st = 2) then decide (1 ≤ v.pr) && decide (v.pr ≤ 1099511627776) && decide (v.rep = [])
  else bif decide (v.st = 3) || decide (v.st = 4) then decide (v.pr = 0) && decide (v.rep = [])
  else bif decide (v.st = 5) then decide (1 ≤ v.pr) && decide (v.pr ≤ 1099511627776) && validIDF v.rep && !decide (v.rep = v.p) else false)
def VT.nil (v : VT) : Bool := decide (v.o = []) && (decide (v.p = []) && (decide (v.per = 0) && (decide (v.day = 0) && (decide (v.st = 0) && (decide (v.pr = 0) && decide (v.rep = []))))))
def DT.nil (d : DT) : Bool := decide (d.o = []) && (decide (d.p = []) && (decide (d.per = 0) && (decide (d.dev = []) && decide (d.num = 0))))
def numF (n : Int) : Bool := decide (1 ≤ n) && decide (n ≤ 1048576)
def msgF (m : MG) : Int := bif !nameF m.dev then 110 else bif !numF m.seq then 111 else bif !decide (m.kind = 1) && !decide (m.kind = 2) then 112
  else bif (decide (m.kind = 1) && !visF m.v) || (decide (m.kind = 2) && !m.v.nil) then 113
  else bif (decide (m.kind = 1) && !m.d.nil) || (decide (m.kind = 2) && !(slotF m.d.o m.d.p m.d.per && nameF m.d.dev && numF m.d.num)) then 114 else 0
def S_val0 : Spec
  | [.agg [.str id, .str code, .str brand, .int .i64 d, .int .i64 c, .int .i64 a, .nil]], [] => some (.int .i64 (valF id code brand d c a 0 (fun _ => []) (fun _ => [])), [], code.length < 4294967281 ∧ brand.length < 4294967281)
  | _, _ => none
def S_calv : Spec
  | [.int .i64 d], [] => some (.bool (decide (0 ≤ d) && decide (d ≤ 182620)), [], True)
  | _, _ => none
def S_cname : Spec
  | [.str s], [] => some (.bool (nameF s), [], s.length < 4294967281)
  | _, _ => none
def S_slot : Spec
  | [.str o, .str p, .int .i64 per], [] => some (.bool (slotF o p per), [], o.length < 4294967281)
  | _, _ => none
def S_num : Spec
  | [.int .i64 n], [] => some (.bool (numF n), [], True)
  | _, _ => none
def S_weekday : Spec
  | [.int .i64 d], [] => some (.int .i64 (bif decide (0 ≤ d) && decide (d ≤ 182620) then d % 7 else -1), [], True)
  | _, _ => none
def S_visit : Spec
  | [.agg [.str o, .str p, .int .i64 per, .int .i64 day, .int .i64 st, .int .i64 pr, .str rep]], [] => some (.bool (visF ⟨o, p, per, day, st, pr, rep⟩), [], o.length < 4294967281)
  | _, _ => none
def S_msg : Spec
  | [.agg [.str dev, .int .i64 seq, .int .i64 kind, .str o, .str p, .int .i64 per, .int .i64 day, .int .i64 st, .int .i64 pr, .str rep, .str o', .str p', .int .i64 per', .str dev', .int .i64 num]], [] =>
      some (.int .i64 (msgF ⟨dev, seq, kind, ⟨o, p, per, day, st, pr, rep⟩, ⟨o', p', per', dev', num⟩⟩), [], dev.length < 4294967281 ∧ o.length < 4294967281 ∧ o'.length < 4294967281 ∧ dev'.length < 4294967281)
  | _, _ => none
end Go.Eng
namespace Go.Eng
def keyC (a b : RW) : Int := orL [cmpS a.o b.o, cmpS a.p b.p, cmpI a.per b.per]
theorem keyC_preC : PreC keyC := (cmpS_preC.comap RW.o).or ((cmpS_preC.comap RW.p).or ((cmpI_preC.comap RW.per).or .nil))
def sameK (a b : RW) : Bool := decide (a.o = b.o) && decide (a.p = b.p) && decide (a.per = b.per)
theorem sameK_iff {a b : RW} : sameK a b = true ↔ a.o = b.o ∧ a.p = b.p ∧ a.per = b.per := by simp [sameK, and_assoc]
theorem sameK_self (a : RW) : sameK a a = true := sameK_iff.2 ⟨rfl, rfl, rfl⟩
theorem sameK_symm {a b : RW} (h : sameK a b = true) : sameK b a = true := by
  obtain ⟨h1, h2, h3⟩ := sameK_iff.1 h
  exact sameK_iff.2 ⟨h1.symm, h2.symm, h3.symm⟩
theorem sameK_trans {a b c : RW} (h : sameK a b = true) (k : sameK b c = true) : sameK a c = true := by
  obtain ⟨h1, h2, h3⟩ := sameK_iff.1 h
  obtain ⟨k1, k2, k3⟩ := sameK_iff.1 k
  exact sameK_iff.2 ⟨h1.trans k1, h2.trans k2, h3.trans k3⟩
theorem sameK_congr {a b : RW} (h : sameK a b = true) (c : RW) : sameK a c = sameK b c := by
  obtain ⟨h1, h2, h3⟩ := sameK_iff.1 h
  unfold sameK; rw [h1, h2, h3]
def sumU (x : RW) : List RW → Int
  | [] => 0
  | r :: l => (bif sameK x r then r.u else 0) + sumU x l
def sumT (x : RW) : List RW → Int
  | [] => 0
  | r :: l => (bif sameK x r then r.tv else 0) + sumT x l
theorem sumU_app (x : RW) : ∀ (l l' : List RW), sumU x (l ++ l') = sumU x l + sumU x l'
  | [], l' => by simp [sumU]
  | r :: l, l' => by rw [List.cons_append, sumU, sumU, sumU_app x l l']; omega
theorem sumT_app (x : RW) : ∀ (l l' : List RW), sumT x (l ++ l') = sumT x l + sumT x l'
  | [], l' => by simp [sumT]
  | r :: l, l' => by rw [List.cons_append, sumT, sumT, sumT_app x l l']; omega
theorem sumU_congr {x y : RW} (h : sameK x y = true) : ∀ l, sumU x l = sumU y l
  | [] => rfl
  | r :: l => by rw [sumU, sumU, sumU_congr h l, sameK_congr h]
theorem sumT_congr {x y : RW} (h : sameK x y = true) : ∀ l, sumT x l = sumT y l
  | [] => rfl
  | r :: l => by rw [sumT, sumT, sumT_congr h l, sameK_congr h]
theorem sumU_none {x : RW} : ∀ {l : List RW}, (∀ r ∈ l, sameK x r = false) → sumU x l = 0
  | [], _ => rfl
  | r :: l, h => by rw [sumU, h r (List.mem_cons_self ..), sumU_none fun r' hr => h r' (List.mem_cons_of_mem _ hr)]; rfl
theorem sumT_none {x : RW} : ∀ {l : List RW}, (∀ r ∈ l, sameK x r = false) → sumT x l = 0
  | [], _ => rfl
  | r :: l, h => by rw [sumT, h r (List.mem_cons_self ..), sumT_none fun r' hr => h r' (List.mem_cons_of_mem _ hr)]; rfl
structure IsSums (l out : List RW) : Prop where
  parts : out.Pairwise fun a b => sameK a b = false
  sums : ∀ r ∈ out, (∃ x ∈ l, sameK r x = true) ∧ r.u = sumU r l ∧ r.tv = sumT r l
  all : ∀ x ∈ l, ∃ r ∈ out, sameK x r = true
theorem IsSums.nil : IsSums [] [] := ⟨.nil, fun _ h => (by cases h), fun _ h => (by cases h)⟩
theorem RW.ext' {a b : RW} (h : sameK a b = true) (hu : a.u = b.u) (ht : a.tv = b.tv) : a = b := by
  obtain ⟨h1, h2, h3⟩ := sameK_iff.1 h
  cases a; cases b; simp_all
theorem IsSums.mem_iff {l out out' : List RW} (h : IsSums l out) (h' : IsSums l out') (x : RW) : x ∈ out ↔ x ∈ out' := by
  have key : ∀ {o1 o2 : List RW}, IsSums l o1 → IsSums l o2 → x ∈ o1 → x ∈ o2 := fun k1 k2 hx => by
    obtain ⟨⟨y, hy, hs⟩, e1, e2⟩ := k1.sums x hx
    obtain ⟨r, hr, hs'⟩ := k2.all y hy
    obtain ⟨_, f1, f2⟩ := k2.sums r hr
    have hxr := sameK_trans hs hs'
    rw [RW.ext' hxr (by rw [e1, f1, sumU_congr hxr]) (by rw [e2, f2, sumT_congr hxr])]; exact hr
  exact ⟨key h h', key h' h⟩
theorem IsSums.uniq {l out out' : List RW} (h : IsSums l out) (h' : IsSums l out') (a : Asc keyC out) (a' : Asc keyC out') : out = out' :=
  Asc.uniq keyC_preC a a' (h.mem_iff h')
def getK : List RW → RW → Option RW
  | [], _ => none
  | r :: l, x => bif sameK r x then some r else getK l x
def setK : List RW → RW → List RW
  | [], x => [x]
  | r :: l, x => bif sameK r x then x :: l else r :: setK l x
def addK (out : List RW) (r : RW) : RW := ⟨r.o, r.p, r.per, r.u + ((getK out r).map RW.u).getD 0, r.tv + ((getK out r).map RW.tv).getD 0⟩
theorem addK_same (out : List RW) (r : RW) : sameK (addK out r) r = true := sameK_iff.2 ⟨rfl, rfl, rfl⟩
theorem getK_some : ∀ {l : List RW} {x r : RW}, getK l x = some r → r ∈ l ∧ sameK r x = true
  | [], _, _, h => by cases h
  | r' :: l, x, r, h => by
    rw [getK] at h
    cases q : sameK r' x with
    | true => rw [q] at h; obtain rfl := Option.some.inj h; exact ⟨List.mem_cons_self .., q⟩
    | false => rw [q] at h; obtain ⟨h1, h2⟩ := getK_some (l := l) h; exact ⟨List.mem_cons_of_mem _ h1, h2⟩
theorem getK_none : ∀ {l : List RW} {x : RW}, getK l x = none → ∀ r ∈ l, sameK r x = false
  | [], _, _, _, h => by cases h
  | r' :: l, x, h, r, hr => by
    rw [getK] at h
    cases q : sameK r' x with
    | true => rw [q] at h; cases h
    | false =>
      rw [q] at h
      rcases List.mem_cons.1 hr with rfl | hr
      · exact q
      · exact getK_none (l := l) h r hr
theorem setK_self : ∀ (l : List RW) (x : RW), x ∈ setK l x
  | [], x => by simp [setK]
  | r :: l, x => by
    rw [setK]
    cases q : sameK r x with
    | true => exact List.mem_cons_self ..
    | false => exact List.mem_cons_of_mem _ (setK_self l x)
theorem setK_old : ∀ {l : List RW} {x y : RW}, y ∈ l → sameK y x = false → y ∈ setK l x
  | [], _, _, h, _ => by cases h
  | r :: l, x, y, h, hn => by
    rw [setK]
    cases q : sameK r x with
    | true =>
      rcases List.mem_cons.1 h with rfl | h
      · rw [hn] at q; cases q
      · exact List.mem_cons_of_mem _ h
    | false =>
      rcases List.mem_cons.1 h with rfl | h
      · exact List.mem_cons_self ..
      · exact List.mem_cons_of_mem _ (setK_old h hn)
theorem sameK_false_symm {a b : RW} (h : sameK a b = false) : sameK b a = false := by
  cases q : sameK b a with
  | false => rfl
  | true => rw [sameK_symm q] at h; cases h
theorem setK_parts : ∀ {l : List RW} (x : RW), (l.Pairwise fun a b => sameK a b = false) → ((setK l x).Pairwise fun a b => sameK a b = false) ∧ ∀ y, y ∈ setK l x → y = x ∨ (y ∈ l ∧ sameK y x = false)
  | [], x, _ => ⟨by simp [setK], fun y h => .inl (by simpa [setK] using h)⟩
  | r :: l, x, h => by
    obtain ⟨h1, h2⟩ := List.pairwise_cons.1 h
    rw [setK]
    cases q : sameK r x with
    | true =>
      have hl : ∀ y ∈ l, sameK x y = false := fun y hy => by rw [← sameK_congr q]; exact h1 y hy
      refine ⟨List.pairwise_cons.2 ⟨hl, h2⟩, fun y hy => ?_⟩
      rcases List.mem_cons.1 hy with rfl | hy
      · exact .inl rfl
      · exact .inr ⟨List.mem_cons_of_mem _ hy, sameK_false_symm (hl y hy)⟩
    | false =>
      obtain ⟨i1, i2⟩ := setK_parts (l := l) x h2
      refine ⟨List.pairwise_cons.2 ⟨fun y hy => ?_, i1⟩, fun y hy => ?_⟩
      · rcases i2 y hy with rfl | ⟨h, _⟩
        · exact q
        · exact h1 y h
      · rcases List.mem_cons.1 hy with rfl | hy
        · exact .inr ⟨List.mem_cons_self .., q⟩
        · rcases i2 y hy with h | ⟨h, h'⟩
          · exact .inl h
          · exact .inr ⟨List.mem_cons_of_mem _ h, h'⟩
theorem IsSums.got {l out : List RW} (h : IsSums l out) (r : RW) : ((getK out r).map RW.u).getD 0 = sumU r l ∧ ((getK out r).map RW.tv).getD 0 = sumT r l := by
  cases q : getK out r with
  | some e =>
    obtain ⟨h1, h2⟩ := getK_some q
    obtain ⟨_, h3, h4⟩ := h.sums e h1
    exact ⟨h3.trans (sumU_congr h2 l), h4.trans (sumT_congr h2 l)⟩
  | none =>
    have hn : ∀ x ∈ l, sameK r x = false := fun x hx => by
      obtain ⟨e, he, hs⟩ := h.all x hx
      cases q' : sameK r x with
      | false => rfl
      | true => have := getK_none q e he; rw [sameK_symm (sameK_trans q' hs)] at this; cases this
    exact ⟨(sumU_none hn).symm, (sumT_none hn).symm⟩
theorem IsSums.step {l out : List RW} (h : IsSums l out) (r : RW) : IsSums (l ++ [r]) (setK out (addK out r)) := by
  obtain ⟨p1, p2⟩ := setK_parts (addK out r) h.parts
  obtain ⟨g1, g2⟩ := h.got r
  have hs := addK_same out r
  refine ⟨p1, fun y hy => ?_, fun x hx => ?_⟩
  · rcases p2 y hy with rfl | ⟨h1, h2⟩
    · refine ⟨⟨r, by simp, hs⟩, ?_, ?_⟩
      · rw [sumU_app, sumU_congr hs, sumU_congr hs, sumU, sumU, sameK_self]
        show r.u + _ = _
        rw [g1]; show r.u + _ = _ + (r.u + 0); omega
      · rw [sumT_app, sumT_congr hs, sumT_congr hs, sumT, sumT, sameK_self]
        show r.tv + _ = _
        rw [g2]; show r.tv + _ = _ + (r.tv + 0); omega
    · obtain ⟨⟨x, hx, hxs⟩, e1, e2⟩ := h.sums y h1
      have hne : sameK y r = false := by
        cases q : sameK y r with
        | false => rfl
        | true => rw [sameK_trans q (sameK_symm hs)] at h2; cases h2
      refine ⟨⟨x, by simp [hx], hxs⟩, ?_, ?_⟩
      · rw [sumU_app, sumU, sumU, hne]; show _ = _ + (0 + 0); omega
      · rw [sumT_app, sumT, sumT, hne]; show _ = _ + (0 + 0); omega
  · rcases List.mem_append.1 hx with hx | hx
    · obtain ⟨e, he, hes⟩ := h.all x hx
      cases q : sameK e (addK out r) with
      | true => exact ⟨_, setK_self _ _, sameK_trans hes q⟩
      | false => exact ⟨e, setK_old he q, hes⟩
    · obtain rfl : x = r := by simpa using hx
      exact ⟨_, setK_self _ _, sameK_symm hs⟩
theorem Asc.insert {α : Type} {c : α → α → Int} {a b : List α} {x : α} (h : Asc c (a ++ b)) (ha : ∀ y ∈ a, c y x < 0) (hb : ∀ y ∈ b, c x y < 0) : Asc c (a ++ x :: b) := by
  obtain ⟨h1, h2, h3⟩ := List.pairwise_append.1 h
  refine List.pairwise_append.2 ⟨h1, List.pairwise_cons.2 ⟨hb, h2⟩, fun y hy z hz => ?_⟩
  rcases List.mem_cons.1 hz with rfl | hz
  · exact ha y hy
  · exact h3 y hy z hz
end Go.Eng
namespace Go.Eng
theorem rowsEqR : ∀ O : List (Nat × AObj), RowsEq O O
  | [] => trivial
  | (r, o) :: l => by
    have ih := rowsEqR l
    cases o
    case row => exact ⟨⟨rfl, rfl, rfl, rfl, rfl, fun _ _ => rfl⟩, ih⟩
    all_goals exact ⟨rfl, ih⟩
end Go.Eng
namespace Go.Eng
end Go.Eng
namespace Go.Eng
theorem lk_rmv {α : Type} (d : Nat) : ∀ (l : List (Nat × α)) (i : Nat) (u : α), lk (rm d l) i = some u → d ≠ i ∧ lk l i = some u
  | [], i, u, h => by cases h
  | (j, x) :: l, i, u, h => by
    simp only [rm] at h
    split at h
    · rename_i e
      have e := Nat.eq_of_beq_eq_true e
      obtain ⟨h1, h2⟩ := lk_rmv d l i u h
      refine ⟨h1, ?_⟩
      rw [lk_cons]
      have : ¬ j = i := fun q => h1 (e.symm.trans q)
      simp only [this, if_false]; exact h2
    · rename_i e
      rw [lk_cons] at h ⊢
      have hjd : ¬ j = d := fun q => by subst q; rw [Nat.beq_refl] at e; cases e
      by_cases q : j = i
      · simp only [q, if_true] at h ⊢
        exact ⟨fun q' => hjd (q.trans q'.symm), h⟩
      · simp only [q, if_false] at h ⊢
        exact lk_rmv d l i u h
def frzA (r sz n : Nat) (f : Nat → List AV) : AV → AV
  | .agg cs => .agg (cs.map (frz r sz n f))
  | u => frz r sz n f u
def frzC (r sz n : Nat) (f : Nat → List AV) : AV → AV
  | .tuple cs => .tuple (cs.map (frzA r sz n f))
  | u => frzA r sz n f u
section
variable {C : Ctx} {E : Ent} {O : Nat → Option AObj} {bs : Nat → Option Hd} {w : World} {r : Nat} {t : TypeId} {sz n : Nat} {f : Nat → List AV}
theorem V.frz (hW : WRep C E O bs w) (hr0 : O r = some (.row t sz n f true)) (hf : ∀ i, i < n → nrefL (f i) = true) : ∀ {v u}, V w (MB E O bs) bs v u → V w (MB E O bs) bs v (Eng.frz r sz n f u) := by
  have hrow := hW.obj r _ hr0
  intro v u hV
  cases u with
  | own r' n' =>
    simp only [Eng.frz]
    split
    · rename_i hc
      simp only [Bool.and_eq_true] at hc
      have hr := Nat.eq_of_beq_eq_true hc.1
      have hn' : n' ≤ n := Nat.le_of_ble_eq_true hc.2
      subst hr
      cases hV with
      | own hb hn hcm =>
        rename_i b c
        rcases hrow with ⟨h1, _⟩ | ⟨b', c', vs, h1, h2, h3, h4, h5, h6, h7, h8⟩
        · rw [h1] at hb; cases hb
        · rw [h1] at hb
          injection hb with hb
          injection hb with e1 e2
          subst e1; subst e2
          have hlt : b' < w.heap.size := (Array.getElem?_eq_some_iff.1 h2).1
          have inb : ∀ i, i < n' → ∀ j, j < sz → i * sz + j < vs.size := by
            intro i hi j hj
            rw [h5]
            have : (i + 1) * sz ≤ c' * sz := Nat.mul_le_mul_right sz (by omega)
            rw [Nat.add_mul, Nat.one_mul] at this
            omega
          refine .view ⟨b', 0, none⟩ (fun i j => vs.getD (i * sz + j) undef) hn hcm (fun _ => ⟨rfl, hW.frz _ t sz n f _ _ hr0 h1, hlt⟩) (fun i hi => h6 i (by omega)) (fun i hi j hj => ?_) (fun i hi j hj => ?_) fun i hi j u hu => ?_
          · have := inb i hi j hj
            rw [Addr.add_lit, Nat.zero_add, cell_of_row w b' (i * sz + j) vs t (0, 0) h2]
            simp [this]
          · have := inb i hi j hj
            exact h7 i (by omega) j hj _ (by simp [this])
          · have hj : j < sz := by rw [← h6 i (by omega)]; exact (List.getElem?_eq_some_iff.1 hu).1
            have := inb i hi j hj
            exact (h8 i (by omega) j _ u hj (by simp [this]) hu).free (fun _ _ h => h) (fun _ _ _ => rfl) (Nat.le_refl _) nob (nrefL_get (hf i (by omega)) j u hu)
      | ownnil hb hn =>
        subst hn
        exact .view ⟨0, 0, none⟩ (fun _ _ => undef) (Nat.le_refl _) (Nat.zero_le _) (fun h => by omega) (fun i hi => by omega) (fun i hi => by omega) (fun i hi => by omega) (fun i hi => by omega)
    · exact hV
  | _ => exact hV
theorem V.frzA (hW : WRep C E O bs w) (hr0 : O r = some (.row t sz n f true)) (hf : ∀ i, i < n → nrefL (f i) = true) {v : Value} {u : AV} (h : V w (MB E O bs) bs v u) : V w (MB E O bs) bs v (Eng.frzA r sz n f u) := by
  cases u with
  | agg cs =>
    cases h with
    | agg hl h1 hv =>
      refine .agg (by rw [List.length_map]; exact hl) h1 fun j v u hj hu => ?_
      rw [List.getElem?_map] at hu
      obtain ⟨u0, hu0, rfl⟩ := Option.map_eq_some_iff.1 hu
      exact V.frz hW hr0 hf (hv j v u0 hj hu0)
  | _ => exact V.frz hW hr0 hf h
theorem V.frzC (hW : WRep C E O bs w) (hr0 : O r = some (.row t sz n f true)) (hf : ∀ i, i < n → nrefL (f i) = true) {v : Value} {u : AV} (h : V w (MB E O bs) bs v u) : V w (MB E O bs) bs v (Eng.frzC r sz n f u) := by
  cases u with
  | tuple cs =>
    cases h with
    | tuple hl hv =>
      refine .tuple (by rw [List.length_map]; exact hl) fun j v u hj hu => ?_
      rw [List.getElem?_map] at hu
      obtain ⟨u0, hu0, rfl⟩ := Option.map_eq_some_iff.1 hu
      exact V.frzA hW hr0 hf (hv j v u0 hj hu0)
  | _ => exact V.frzA hW hr0 hf h
theorem WRep.less {O' : Nat → Option AObj} (hW : WRep C E O bs w) (hO : ∀ k o, O' k = some o → O k = some o) : Step w (MB E O bs) bs w (MB E O' bs) bs ∧ WRep C E O' bs w := by
  have hmb : ∀ b, mutB O' bs b → mutB O bs b := fun b ⟨r, o, c, h1, h2, h3⟩ => ⟨r, o, c, hO r o h1, h2, h3⟩
  have hMB : ∀ b, MB E O' bs b → MB E O bs b := fun b hb => hb.imp id (hmb b)
  have hS : Step w (MB E O bs) bs w (MB E O' bs) bs := ⟨fun _ _ h => h, fun b _ hb hb' => hb (hMB b hb'), fun _ _ _ => rfl, Nat.le_refl _⟩
  exact ⟨hS, {
    obj := fun r o ho => (hW.obj r o (hO r o ho)).step hS fun _ _ _ => rfl
    sep := fun r r' o1 o2 b c c' h1 h2 m1 m2 b1 b2 => hW.sep r r' o1 o2 b c c' (hO _ _ h1) (hO _ _ h2) m1 m2 b1 b2
    out := fun b hb => hW.out b (hmb b hb)
    frz := fun r t' sz' n f b c ho hb hM => hW.frz r t' sz' n f b c (hO _ _ ho) hb (hMB b hM)
    high := fun b hb => hW.high b (hMB b hb)
    lt := hW.lt
    outlt := hW.outlt
    keep := hW.keep
    old := fun b hb => hW.old b (hmb b hb)
    size := hW.size
    pre := hW.pre
    os := hW.os
    tape := hW.tape
    output := hW.output
    laid := hW.laid
    gle := hW.gle }⟩
end
def frzR (r : Nat) (R : AV → List (Nat × AObj) → Prop) (u : AV) (O : List (Nat × AObj)) : Prop :=
  ∃ t sz n g fr, lk O r = some (.row t sz n g fr) ∧ (∀ i, i < n → nrefL (g i) = true) ∧ R (frzC r sz n g u) (rm r O)
theorem ACalls.frz {C : Ctx} {f : FuncId} {args : List AV} {objs : List AObj} {R : AV → List (Nat × AObj) → Prop} (r : Nat) (h : ACalls C f args objs (frzR r R)) : ACalls C f args objs R := by
  refine ⟨h.1, fun E bs w cargs h1 h2 h3 h4 h5 h6 h7 => ?_⟩
  refine (h.2 E bs w cargs h1 h2 h3 h4 h5 h6 h7).mono ?_
  rintro e w' ⟨v, u, O', bs', r1, ⟨t, sz, n, g, fr, hO, hg, hR⟩, r3, r4, r5⟩
  obtain ⟨hS, hW1⟩ := r3.freeze hO
  have hV := V.frzC hW1 (up_same _ _ _) hg (r4.step hS)
  obtain ⟨hS2, hW2⟩ := hW1.less (O' := lk (rm r O')) fun k o hk => by
    obtain ⟨q1, q2⟩ := lk_rmv r O' k o hk
    rw [up_other _ _ _ q1]; exact q2
  refine ⟨v, _, rm r O', bs', r1, hR, hW2, hV.step hS2, fun k hk => ⟨?_, (r5 k hk).2⟩⟩
  cases hx : lk (rm r O') k with
  | none => rfl
  | some o =>
    have := (lk_rmv r O' k o hx).2
    rw [(r5 k hk).1] at this; cases this
end Go.Eng
namespace Go.Eng
def nilv (sz : Nat) (f : Nat → List AV) : AV → AV
  | .nil => .view sz 0 f
  | u => u
def nilvA (sz : Nat) (f : Nat → List AV) : AV → AV
  | .agg cs => .agg (cs.map (nilv sz f))
  | u => nilv sz f u
def nilvC (sz : Nat) (f : Nat → List AV) : AV → AV
  | .tuple cs => .tuple (cs.map (nilvA sz f))
  | u => nilvA sz f u
section
variable {w : World} {M : Nat → Prop} {bs : Nat → Option Hd} {sz : Nat} {f : Nat → List AV}
theorem V.nilv {v : Value} {u : AV} (h : V w M bs v u) : V w M bs v (Eng.nilv sz f u) := by
  cases u with
  | nil => cases h; exact .view ⟨0, 0, none⟩ (fun _ _ => undef) (Nat.le_refl _) (Nat.zero_le _) (fun h => by omega) (fun i hi => by omega) (fun i hi => by omega) (fun i hi => by omega) (fun i hi => by omega)
  | _ => exact h
theorem V.nilvA {v : Value} {u : AV} (h : V w M bs v u) : V w M bs v (Eng.nilvA sz f u) := by
  cases u with
  | agg cs =>
    cases h with
    | agg hl h1 hv =>
      refine .agg (by rw [List.length_map]; exact hl) h1 fun j v u hj hu => ?_
      rw [List.getElem?_map] at hu
      obtain ⟨u0, hu0, rfl⟩ := Option.map_eq_some_iff.1 hu
      exact V.nilv (hv j v u0 hj hu0)
  | _ => exact V.nilv (sz := sz) (f := f) h
theorem V.nilvC {v : Value} {u : AV} (h : V w M bs v u) : V w M bs v (Eng.nilvC sz f u) := by
  cases u with
  | tuple cs =>
    cases h with
    | tuple hl hv =>
      refine .tuple (by rw [List.length_map]; exact hl) fun j v u hj hu => ?_
      rw [List.getElem?_map] at hu
      obtain ⟨u0, hu0, rfl⟩ := Option.map_eq_some_iff.1 hu
      exact V.nilvA (hv j v u0 hj hu0)
  | _ => exact V.nilvA (sz := sz) (f := f) h
end
theorem ACalls.nilv {C : Ctx} {g : FuncId} {args : List AV} {objs : List AObj} {R : AV → List (Nat × AObj) → Prop} (sz : Nat) (f : Nat → List AV) (h : ACalls C g args objs fun u O => R (nilvC sz f u) O) : ACalls C g args objs R := by
  refine ⟨h.1, fun E bs w cargs h1 h2 h3 h4 h5 h6 h7 => ?_⟩
  refine (h.2 E bs w cargs h1 h2 h3 h4 h5 h6 h7).mono ?_
  rintro e w' ⟨v, u, O', bs', r1, r2, r3, r4, r5⟩
  exact ⟨v, _, O', bs', r1, r2, r3, V.nilvC r4, r5⟩
end Go.Eng
namespace Go.Eng
theorem lkL_set {objs : List AObj} {r : Nat} {x : AObj} (h : r < objs.length) : lkL (objs.set r x) = up (lkL objs) r x := by
  funext k
  unfold lkL
  by_cases e : r = k
  · subst e
    rw [up_same, List.getElem?_set_self h]
  · rw [up_other _ _ _ e, List.getElem?_set_ne e]
theorem ACalls.nilArg {C : Ctx} {g : FuncId} {args : List AV} {objs : List AObj} {R : AV → List (Nat × AObj) → Prop} (sz : Nat) (f : Nat → List AV) (h : ACalls C g (args.map (nilvA sz f)) objs R) : ACalls C g args objs R := by
  refine ⟨h.1, fun E bs w cargs h1 h2 h3 h4 h5 h6 h7 => ?_⟩
  refine h.2 E bs w cargs h1 h2 h3 h4 h5 (by rw [List.length_map]; exact h6) fun j v u hv hu => ?_
  rw [List.getElem?_map] at hu
  obtain ⟨u0, hu0, rfl⟩ := Option.map_eq_some_iff.1 hu
  exact V.nilvA (h7 j v u0 hv hu0)
end Go.Eng
namespace Go.Eng
def frzT (r sz n : Nat) (g : Nat → List AV) : List (Nat × AV) → List (Nat × AV)
  | [] => []
  | p :: l => (p.1, frzC r sz n g p.2) :: frzT r sz n g l
def frzSt (r : Nat) (s : St) : St := match lk s.O r with
  | some (.row _ sz n g _) => ⟨frzT r sz n g s.T, rm r s.O, s.nx, s.dec⟩
  | _ => s
def frzOK (r : Nat) (s : St) : Prop := match lk s.O r with
  | some (.row _ _ n g _) => ∀ i, i < n → nrefL (g i) = true
  | _ => True
theorem lk_frzT {r sz n : Nat} {g : Nat → List AV} : ∀ {T : List (Nat × AV)} {i : Nat} {u : AV}, lk (frzT r sz n g T) i = some u → ∃ u0, lk T i = some u0 ∧ u = frzC r sz n g u0
  | [], i, u, h => by cases h
  | p :: T, i, u, h => by
    rw [frzT, lk_cons] at h
    rw [lk_cons]
    by_cases e : p.1 = i
    · rw [if_pos e] at h ⊢
      exact ⟨_, rfl, (Option.some.inj h).symm⟩
    · rw [if_neg e] at h ⊢
      exact lk_frzT h
theorem RepS.frz {C : Ctx} {E : Ent} {N : Nat} {s : St} {bs : Nat → Option Hd} {a : Act} {w : World} (h : RepS C E N s bs a w) (r : Nat) (hf : frzOK r s) : RepS C E N (frzSt r s) bs a w := by
  unfold frzSt
  unfold frzOK at hf
  split
  · rename_i t sz n g fr hO
    rw [hO] at hf
    obtain ⟨⟨hF, hW⟩, hnx, hm⟩ := h
    obtain ⟨hS, hW1⟩ := hW.freeze hO
    have hF1 := hF.step hS
    obtain ⟨hS2, hW2⟩ := hW1.less (O' := lk (rm r s.O)) fun k o hk => by
      obtain ⟨q1, q2⟩ := lk_rmv r s.O k o hk
      rw [up_other _ _ _ q1]; exact q2
    refine ⟨⟨⟨hF.1, hF.2.1, fun i u hu => ?_⟩, hW2⟩, fun k hk => ⟨?_, (hnx k hk).2⟩, hm⟩
    · obtain ⟨u0, h0, rfl⟩ := lk_frzT hu
      obtain ⟨v, hv, hV⟩ := hF1.2.2 i u0 h0
      exact ⟨v, hv, (V.frzC hW1 (up_same _ _ _) hf hV).step hS2⟩
    · show lk (rm r s.O) k = none
      cases hx : lk (rm r s.O) k with
      | none => rfl
      | some o =>
        have := (lk_rmv r s.O k o hx).2
        rw [(hnx k hk).1] at this; cases this
  · exact h
theorem AWP.frz {C : Ctx} {m N : Nat} {c : Code} {Q : Exit → St → Prop} {s : St} (r : Nat) (hf : frzOK r s) (h : AWP C m N c Q (frzSt r s)) : AWP C m N c Q s := by
  intro E hE bs a w hr
  exact h E hE bs a w (hr.frz r hf)
def frzO (r : Nat) (R : AV → List (Nat × AObj) → Prop) (u : AV) (O : List (Nat × AObj)) : Prop := match lk O r with
  | some (.row _ sz n g _) => (∀ i, i < n → nrefL (g i) = true) ∧ R (frzC r sz n g u) (rm r O)
  | _ => R u O
theorem ACalls.frzO {C : Ctx} {f : FuncId} {args : List AV} {objs : List AObj} {R : AV → List (Nat × AObj) → Prop} (r : Nat) (h : ACalls C f args objs (Eng.frzO r R)) : ACalls C f args objs R := by
  refine ⟨h.1, fun E bs w cargs h1 h2 h3 h4 h5 h6 h7 => ?_⟩
  refine (h.2 E bs w cargs h1 h2 h3 h4 h5 h6 h7).mono ?_
  rintro e w' ⟨v, u, O', bs', r1, hR0, r3, r4, r5⟩
  unfold Eng.frzO at hR0
  split at hR0
  · rename_i t sz n g fr hO
    obtain ⟨hg, hR⟩ := hR0
    obtain ⟨hS, hW1⟩ := r3.freeze hO
    have hV := V.frzC hW1 (up_same _ _ _) hg (r4.step hS)
    obtain ⟨hS2, hW2⟩ := hW1.less (O' := lk (rm r O')) fun k o hk => by
      obtain ⟨q1, q2⟩ := lk_rmv r O' k o hk
      rw [up_other _ _ _ q1]; exact q2
    refine ⟨v, _, rm r O', bs', r1, hR, hW2, hV.step hS2, fun k hk => ⟨?_, (r5 k hk).2⟩⟩
    cases hx : lk (rm r O') k with
    | none => rfl
    | some o =>
      have := (lk_rmv r O' k o hx).2
      rw [(r5 k hk).1] at this; cases this
  · exact ⟨v, u, O', bs', r1, hR0, r3, r4, r5⟩
theorem WRep.rowEq {C : Ctx} {E : Ent} {O : Nat → Option AObj} {bs : Nat → Option Hd} {w : World} (hW : WRep C E O bs w) {r0 : Nat} {t sz n : Nat} {f f' : Nat → List AV} {fr : Bool} (hd : O r0 = some (.row t sz n f fr)) (hf : ∀ i, i < n → f' i = f i) :
    MB E (up O r0 (.row t sz n f' fr)) bs = MB E O bs ∧ WRep C E (up O r0 (.row t sz n f' fr)) bs w := by
  have hlk : ∀ r o, up O r0 (.row t sz n f' fr) r = some o → (r = r0 ∧ o = .row t sz n f' fr) ∨ (r ≠ r0 ∧ O r = some o) := fun r o ho => by
    by_cases e : r0 = r
    · subst e
      rw [up_same] at ho
      exact .inl ⟨rfl, (Option.some.inj ho).symm⟩
    · rw [up_other _ _ _ e] at ho
      exact .inr ⟨fun e' => e e'.symm, ho⟩
  have hback : ∀ r o, O r = some o → ∃ o', up O r0 (.row t sz n f' fr) r = some o' ∧ o'.mut = o.mut := fun r o ho => by
    by_cases e : r0 = r
    · subst e
      rw [hd] at ho
      obtain rfl := Option.some.inj ho
      exact ⟨_, up_same _ _ _, rfl⟩
    · exact ⟨o, by rw [up_other _ _ _ e]; exact ho, rfl⟩
  have hold : ∀ r o, up O r0 (.row t sz n f' fr) r = some o → ∃ o', O r = some o' ∧ o'.mut = o.mut := fun r o ho => by
    rcases hlk r o ho with ⟨rfl, rfl⟩ | ⟨_, h2⟩
    · exact ⟨_, hd, rfl⟩
    · exact ⟨_, h2, rfl⟩
  have hMB : MB E (up O r0 (.row t sz n f' fr)) bs = MB E O bs := by
    funext b
    apply propext
    constructor
    · rintro (h | ⟨r, o, c, h1, h2, h3⟩)
      · exact .inl h
      · obtain ⟨o', q1, q2⟩ := hold r o h1
        exact .inr ⟨r, o', c, q1, q2.trans h2, h3⟩
    · rintro (h | ⟨r, o, c, h1, h2, h3⟩)
      · exact .inl h
      · obtain ⟨o', q1, q2⟩ := hback r o h1
        exact .inr ⟨r, o', c, q1, q2.trans h2, h3⟩
  have hmb : ∀ b, mutB (up O r0 (.row t sz n f' fr)) bs b → mutB O bs b := fun b ⟨r, o, c, h1, h2, h3⟩ => by
    obtain ⟨o', q1, q2⟩ := hold r o h1
    exact ⟨r, o', c, q1, q2.trans h2, h3⟩
  refine ⟨hMB, ?_⟩
  exact {
    obj := fun r o ho => by
      rw [hMB]
      rcases hlk r o ho with ⟨rfl, rfl⟩ | ⟨hne, ho⟩
      · rcases hW.obj r _ hd with h | ⟨b, c, vs, h1, h2, h3, h4, h5, h6, h7, h8⟩
        · exact .inl h
        · exact .inr ⟨b, c, vs, h1, h2, h3, h4, h5, fun i hi => by rw [hf i hi]; exact h6 i hi, h7, fun i hi j v u hj hv hu => h8 i hi j v u hj hv (by rw [← hf i hi]; exact hu)⟩
      · exact hW.obj r o ho
    sep := fun r r' o1 o2 b c c' h1 h2 m1 m2 b1 b2 => by
      obtain ⟨o1', p1, p2⟩ := hold r o1 h1
      obtain ⟨o2', p3, p4⟩ := hold r' o2 h2
      exact hW.sep r r' o1' o2' b c c' p1 p3 (p2.trans m1) (p4.trans m2) b1 b2
    out := fun b hb => hW.out b (hmb b hb)
    frz := fun r t' sz' n' f2 b c ho hb => by
      rw [hMB]
      rcases hlk r _ ho with ⟨rfl, h⟩ | ⟨hne, ho⟩
      · injection h with e1 e2 e3 e4 e5
        subst e5
        exact hW.frz r _ _ _ _ b c hd hb
      · exact hW.frz r t' sz' n' f2 b c ho hb
    high := fun b hb => hW.high b (by rw [← hMB]; exact hb)
    lt := hW.lt
    outlt := hW.outlt
    keep := hW.keep
    old := fun b hb => hW.old b (hmb b hb)
    size := hW.size
    pre := hW.pre
    os := hW.os
    tape := hW.tape
    output := hW.output
    laid := hW.laid
    gle := hW.gle }
theorem ACalls.rowEq {C : Ctx} {g : FuncId} {args : List AV} {objs : List AObj} {R : AV → List (Nat × AObj) → Prop} (r : Nat) {t sz n : Nat} {f f' : Nat → List AV} {fr : Bool} (hr : objs[r]? = some (.row t sz n f fr)) (hf : ∀ i, i < n → f' i = f i)
    (h : ACalls C g args (objs.set r (.row t sz n f' fr)) R) : ACalls C g args objs R := by
  have hlt : r < objs.length := (List.getElem?_eq_some_iff.1 hr).1
  refine ⟨h.1, fun E bs w cargs h1 h2 h3 h4 h5 h6 h7 => ?_⟩
  obtain ⟨q1, q2⟩ := h4.rowEq (show lkL objs r = some (.row t sz n f fr) from hr) hf
  rw [← lkL_set hlt] at q1 q2
  have := h.2 E bs w cargs h1 (by rw [List.length_set]; exact h2) h3 q2 (by rw [List.length_set]; exact h5) h6 (by rw [q1]; exact h7)
  rw [List.length_set] at this
  exact this
theorem ADet.give {C : Ctx} {g : FuncId} {args args' : List AV} {U : AV} {t sz n : Nat} {f : Nat → List AV} {fr : Bool} (h : ADet C g args' [] U []) (ha : args.map (frzC 0 sz n f) = args') (hn : nrefL args' = true) (hU : nref U = true) (hf : ∀ i, i < n → nrefL (f i) = true) :
    ADet C g args [.row t sz n f fr] U [] := by
  refine ⟨h.1, fun E bs w cargs h1 h2 h3 h4 h5 h6 h7 => ?_⟩
  obtain ⟨hS, hW1⟩ := h4.freeze (show lkL [.row t sz n f fr] 0 = some (.row t sz n f fr) from rfl)
  have no : ∀ r, lkL [] r = none := fun r => by cases r <;> rfl
  have nm : ∀ b', ¬ mutB (lkL []) nob b' := by
    rintro b' ⟨r, o, c, ho, _⟩
    rw [no r] at ho; cases ho
  have hout : ∀ b, E.outer b → b < w.heap.size := fun b hb => Nat.lt_of_lt_of_le (h4.outlt b hb) h4.size
  have hw : WRep C ⟨w, 0, nob, fun _ => False, E.outer⟩ (lkL []) nob w := {
    obj := fun r o ho => by rw [no r] at ho; cases ho
    sep := fun r r' o o' b c c' ho => by rw [no r] at ho; cases ho
    out := fun b hb => absurd hb (nm b)
    frz := fun r t sz n f b c ho => by rw [no r] at ho; cases ho
    high := fun b hb => by
      rcases hb with hb | hb
      · exact h4.high b (.inl hb)
      · exact absurd hb (nm b)
    lt := fun r b c hb => by simp [nob] at hb
    outlt := hout
    keep := fun b _ _ => rfl
    old := fun b hb => absurd hb (nm b)
    size := Nat.le_refl _
    pre := fun r x hr => absurd hr (Nat.not_lt_zero r)
    os := rfl
    tape := .refl _ _
    output := rfl
    laid := h4.laid
    gle := Nat.le_trans h4.gle h4.size }
  have hlen : cargs.length = args'.length := by rw [← ha, List.length_map]; exact h6
  refine (h.2 ⟨w, 0, nob, fun _ => False, E.outer⟩ nob w cargs rfl rfl rfl hw (fun _ _ => rfl) hlen (fun j v u hv hu => ?_)).mono ?_
  · rw [← ha, List.getElem?_map] at hu
    obtain ⟨u0, hu0, rfl⟩ := Option.map_eq_some_iff.1 hu
    have hV := V.frzC hW1 (up_same _ _ _) hf ((h7 j v u0 hv hu0).step hS)
    refine hV.free (fun b _ hb hb' => ?_) (fun _ _ _ => rfl) (Nat.le_refl _) nob (nrefL_get hn j _ (by rw [← ha, List.getElem?_map, hu0]; rfl))
    rcases hb' with hb' | hb'
    · exact hb (.inl hb')
    · exact nm b hb'
  · rintro e w' ⟨v, u, O', bs', rfl, ⟨rfl, rfl⟩, hw', hV', _⟩
    have nl : ∀ r, lk ([] : List (Nat × AObj)) r = none := fun r => rfl
    have nm' : ∀ (bs : Nat → Option Hd) b', ¬ mutB (lk []) bs b' := by
      rintro bs b' ⟨r, o, c, ho, _⟩
      cases ho
    subst h1
    refine ⟨v, u, [], bs, rfl, ⟨rfl, rfl⟩, ?_, hV'.free (fun b _ hb hb' => ?_) (fun _ _ _ => rfl) (Nat.le_refl _) bs hU, fun r hr => ⟨rfl, h5 r (by show 1 ≤ r; have : 1 + 16 ≤ r := hr; omega)⟩⟩
    · exact {
        obj := fun r o ho => by cases ho
        sep := fun r r' o o' b c c' ho => by cases ho
        out := fun b hb => absurd hb (nm' _ b)
        frz := fun r t sz n f b c ho => by cases ho
        high := fun b hb => by
          rcases hb with hb | hb
          · exact h4.high b (.inl hb)
          · exact absurd hb (nm' _ b)
        lt := fun r b c hb => Nat.lt_of_lt_of_le (h4.lt r b c hb) hw'.size
        outlt := h4.outlt
        keep := fun b hb _ => hw'.keep b hb (fun h => h)
        old := fun b hb => absurd hb (nm' _ b)
        size := hw'.size
        pre := fun r x hr hb => by rw [h3] at hb; exact hb
        os := hw'.os
        tape := hw'.tape
        output := hw'.output
        laid := hw'.laid
        gle := h4.gle }
    · rcases hb' with hb' | hb'
      · exact hb (.inl hb')
      · exact nm' _ b hb'
end Go.Eng
namespace Go.Eng
def S_scmp : Spec
  | [.str a, .str b], [] => some (.int .i64 (cmpS a b), [], True)
  | _, _ => none
def S_nan : Spec
  | [.int .i64 _], [] => some (.bool false, [], True)
  | _, _ => none
def S_icmp : Spec
  | [.int .i64 a, .int .i64 b], [] => some (.int .i64 (cmpI a b), [], True)
  | _, _ => none
def orN (v : Nat → Int) : Nat → Int
  | 0 => 0
  | k + 1 => bif decide (orN v k = 0) then v k else orN v k
def S_or : Spec
  | [.own 0 n], [.row t 1 m f fr] => some (.int .i64 (orN (vInt f) n), [(0, .row 3 1 n f false)], t = 3 ∧ fr = false ∧ n = m ∧ n ≤ 100 ∧ ∀ i, i < n → f i = intRow (vInt f) i)
  | _, _ => none
def S_orl (v : Nat → Int) (n k : Nat) : St := ⟨[(3, .int .i64 0), (6, .own 0 n), (7, .int .i64 n), (8, .int .i64 k)], [(0, .row 3 1 n (intRow v) false)], 1, []⟩
def L_or (v : Nat → Int) (n : Nat) : LSpec := fun st Q => canonIs te 1 [3, 6, 7, 8] st (S_orl v n 0) ∧ n ≤ 100 ∧
  condP (decide (orN v n = 0)) (Q (.exit 0) ⟨[(3, .int .i64 0)], [(0, .row 3 1 n (intRow v) false)], 1, []⟩) (Q .ret ⟨[(2, .int .i64 (orN v n))], [(0, .row 3 1 n (intRow v) false)], 1, []⟩)
def lst {α : Type} (g : Nat → α) (n : Nat) : List α := (List.range n).map g
end Go.Eng
namespace Go.Eng
def ordM (a b : MG) : Int := orL [cmpS a.dev b.dev, cmpI a.seq b.seq, cmpI a.kind b.kind, cmpS a.v.o b.v.o, cmpS a.v.p b.v.p, cmpI a.v.per b.v.per, cmpI a.v.day b.v.day, cmpI a.v.st b.v.st, cmpI a.v.pr b.v.pr, cmpS a.v.rep b.v.rep,
  cmpS a.d.o b.d.o, cmpS a.d.p b.d.p, cmpI a.d.per b.d.per, cmpS a.d.dev b.d.dev, cmpI a.d.num b.d.num]
theorem ordM_preC : PreC ordM :=
  (cmpS_preC.comap MG.dev).or ((cmpI_preC.comap MG.seq).or ((cmpI_preC.comap MG.kind).or ((cmpS_preC.comap fun m : MG => m.v.o).or ((cmpS_preC.comap fun m : MG => m.v.p).or ((cmpI_preC.comap fun m : MG => m.v.per).or ((cmpI_preC.comap fun m : MG => m.v.day).or
  ((cmpI_preC.comap fun m : MG => m.v.st).or ((cmpI_preC.comap fun m : MG => m.v.pr).or ((cmpS_preC.comap fun m : MG => m.v.rep).or ((cmpS_preC.comap fun m : MG => m.d.o).or ((cmpS_preC.comap fun m : MG => m.d.p).or ((cmpI_preC.comap fun m : MG => m.d.per).or
  ((cmpS_preC.comap fun m : MG => m.d.dev).or ((cmpI_preC.comap fun m : MG => m.d.num).or .nil))))))))))))))
theorem ordM_zero {a b : MG} : ordM a b = 0 ↔ a = b := by
  simp only [ordM, orL_zero, cmpS_zero, cmpI_zero, show orL [] = 0 from rfl, and_true]
  constructor
  · rintro ⟨h1, h2, h3, h4, h5, h6, h7, h8, h9, h10, h11, h12, h13, h14, h15⟩
    obtain ⟨a1, a2, a3, ⟨b1, b2, b3, b4, b5, b6, b7⟩, c1, c2, c3, c4, c5⟩ := a
    obtain ⟨a1', a2', a3', ⟨b1', b2', b3', b4', b5', b6', b7'⟩, c1', c2', c3', c4', c5'⟩ := b
    simp only at h1 h2 h3 h4 h5 h6 h7 h8 h9 h10 h11 h12 h13 h14 h15
    subst h1; subst h2; subst h3; subst h4; subst h5; subst h6; subst h7; subst h8; subst h9; subst h10; subst h11; subst h12; subst h13; subst h14; subst h15
    rfl
  · rintro rfl
    simp
def insM : List MG → MG → List MG
  | [], m => [m]
  | x :: l, m => bif decide (ordM m x < 0) then m :: x :: l else bif decide (ordM m x = 0) then x :: l else x :: insM l m
theorem insM_mem : ∀ {l : List MG} {m y : MG}, y ∈ insM l m ↔ y = m ∨ y ∈ l
  | [], m, y => by simp [insM]
  | x :: l, m, y => by
    rw [insM]
    by_cases h : ordM m x < 0
    · rw [decide_eq_true h]; simp
    · rw [decide_eq_false h]
      by_cases h' : ordM m x = 0
      · rw [decide_eq_true h']
        have := ordM_zero.1 h'
        subst this
        simp
      · rw [decide_eq_false h']
        simp only [cond_false, List.mem_cons, insM_mem (l := l)]
        grind
theorem insM_asc : ∀ {l : List MG} (m : MG), Asc ordM l → Asc ordM (insM l m)
  | [], m, _ => by simp [insM, Asc]
  | x :: l, m, h => by
    obtain ⟨h1, h2⟩ := List.pairwise_cons.1 h
    rw [insM]
    by_cases q : ordM m x < 0
    · rw [decide_eq_true q]
      refine List.pairwise_cons.2 ⟨fun y hy => ?_, h⟩
      rcases List.mem_cons.1 hy with rfl | hy
      · exact q
      · exact ordM_preC.lt_trans q (h1 y hy)
    · rw [decide_eq_false q]
      by_cases q' : ordM m x = 0
      · rw [decide_eq_true q']; exact h
      · rw [decide_eq_false q']
        refine List.pairwise_cons.2 ⟨fun y hy => ?_, insM_asc m h2⟩
        rcases insM_mem.1 hy with rfl | hy
        · have := ordM_preC.neg x y
          have := ordM_preC.neg y x
          omega
        · exact h1 y hy
def okM (m : MG) : Bool := decide (msgF m = 0)
def mrgF (l : List MG) : List MG := (l.filter okM).foldl insM []
theorem fold_ins : ∀ (l acc : List MG), Asc ordM acc → Asc ordM (l.foldl insM acc) ∧ ∀ y, y ∈ l.foldl insM acc ↔ y ∈ acc ∨ y ∈ l
  | [], acc, h => ⟨h, fun y => by simp⟩
  | x :: l, acc, h => by
    obtain ⟨h1, h2⟩ := fold_ins l (insM acc x) (insM_asc x h)
    refine ⟨h1, fun y => ?_⟩
    rw [List.foldl_cons, h2, insM_mem, List.mem_cons]
    grind
theorem mrgF_asc (l : List MG) : Asc ordM (mrgF l) := (fold_ins _ [] .nil).1
theorem mrgF_mem {l : List MG} {m : MG} : m ∈ mrgF l ↔ m ∈ l ∧ msgF m = 0 := by
  rw [mrgF, (fold_ins _ [] .nil).2]
  simp [okM]
theorem mrgF_uniq {l out : List MG} (h : Asc ordM out) (hm : ∀ m, m ∈ out ↔ m ∈ l ∧ msgF m = 0) : out = mrgF l :=
  Asc.uniq ordM_preC h (mrgF_asc l) fun m => by rw [hm, mrgF_mem]
theorem mrgF_congr {l l' : List MG} (h : ∀ m, m ∈ l ↔ m ∈ l') : mrgF l = mrgF l' :=
  mrgF_uniq (mrgF_asc l) fun m => by rw [mrgF_mem, h]
theorem mrgF_snoc (l : List MG) (m : MG) : mrgF (l ++ [m]) = bif okM m then insM (mrgF l) m else mrgF l := by
  unfold mrgF
  rw [List.filter_append]
  cases h : okM m <;> simp [h]
theorem insM_len : ∀ (l : List MG) (m : MG), (insM l m).length ≤ l.length + 1
  | [], m => by simp [insM]
  | x :: l, m => by
    rw [insM]
    cases decide (ordM m x < 0) with
    | true => simp
    | false =>
      cases decide (ordM m x = 0) with
      | true => simp
      | false => have := insM_len l m; simpa using this
theorem fold_len : ∀ (l acc : List MG), (l.foldl insM acc).length ≤ acc.length + l.length
  | [], acc => by simp
  | x :: l, acc => by
    rw [List.foldl_cons, List.length_cons]
    have := fold_len l (insM acc x)
    have := insM_len acc x
    omega
theorem mrgF_len (l : List MG) : (mrgF l).length ≤ l.length := by
  have := fold_len (l.filter okM) []
  have h2 := List.length_filter_le okM l
  unfold mrgF
  simp at this
  omega
end Go.Eng
namespace Go.Eng
def mgC (m : MG) : List AV := [.str m.dev, .int .i64 m.seq, .int .i64 m.kind, .str m.v.o, .str m.v.p, .int .i64 m.v.per, .int .i64 m.v.day, .int .i64 m.v.st, .int .i64 m.v.pr, .str m.v.rep, .str m.d.o, .str m.d.p, .int .i64 m.d.per, .str m.d.dev, .int .i64 m.d.num]
def mgRow (g : Nat → MG) (i : Nat) : List AV := [.str (g i).dev, .int .i64 (g i).seq, .int .i64 (g i).kind, .str (g i).v.o, .str (g i).v.p, .int .i64 (g i).v.per, .int .i64 (g i).v.day, .int .i64 (g i).v.st, .int .i64 (g i).v.pr, .str (g i).v.rep, .str (g i).d.o, .str (g i).d.p, .int .i64 (g i).d.per, .str (g i).d.dev, .int .i64 (g i).d.num]
def mgOf (f : Nat → List AV) (i : Nat) : MG := match f i with
  | [.str dev, .int .i64 seq, .int .i64 kind, .str o, .str p, .int .i64 per, .int .i64 day, .int .i64 st, .int .i64 pr, .str rep, .str o', .str p', .int .i64 per', .str dev', .int .i64 num] => ⟨dev, seq, kind, ⟨o, p, per, day, st, pr, rep⟩, ⟨o', p', per', dev', num⟩⟩
  | _ => default
def S_mcmp1 : Spec
  | [.str a, .str b], [] => some (.int .i64 (cmpS a b), [], True)
  | _, _ => none
def S_mcmp : Spec
  | [.agg [.str dev, .int .i64 seq, .int .i64 kind, .str o, .str p, .int .i64 per, .int .i64 day, .int .i64 st, .int .i64 pr, .str rep, .str o', .str p', .int .i64 per', .str dev', .int .i64 num], .agg [.str dev2, .int .i64 seq2, .int .i64 kind2, .str o2, .str p2, .int .i64 per2, .int .i64 day2, .int .i64 st2, .int .i64 pr2, .str rep2, .str o3, .str p3, .int .i64 per3, .str dev3, .int .i64 num2]], [] => some (.int .i64 (ordM ⟨dev, seq, kind, ⟨o, p, per, day, st, pr, rep⟩, ⟨o', p', per', dev', num⟩⟩ ⟨dev2, seq2, kind2, ⟨o2, p2, per2, day2, st2, pr2, rep2⟩, ⟨o3, p3, per3, dev3, num2⟩⟩), [], True)
  | _, _ => none
def R_sortM : RSpec
  | [.own 0 n, .func 115 []], [.row t 15 m f fr], R => t = 40 ∧ fr = false ∧ n = m ∧ n ≤ 1000000 ∧ f = mgRow (mgOf f) ∧
      ∀ h : Nat → MG, (lst h n).Perm (lst (mgOf f) n) → (∀ i j, i < j → j < n → ¬ ordM (h j) (h i) < 0) → R (.tuple []) [(0, .row 40 15 n (mgRow h) false)]
  | _, _, _ => False
end Go.Eng
namespace Go.Eng
def R_grow : RSpec
  | [.nil, .int .i64 n], [], R => 0 ≤ n ∧ n ≤ 1000000 ∧ (n = 0 → R .nil []) ∧ (0 < n → R (.own 0 0) [(0, .row 40 15 0 (fun _ => []) false)])
  | _, _, _ => False
end Go.Eng
namespace Go.Eng
def eqM (a b : MG) : Bool := decide (a.dev = b.dev) && (decide (a.seq = b.seq) && (decide (a.kind = b.kind) && ((decide (a.v.o = b.v.o) && (decide (a.v.p = b.v.p) && (decide (a.v.per = b.v.per) && (decide (a.v.day = b.v.day) && (decide (a.v.st = b.v.st) && (decide (a.v.pr = b.v.pr) && decide (a.v.rep = b.v.rep))))))) && (decide (a.d.o = b.d.o) && (decide (a.d.p = b.d.p) && (decide (a.d.per = b.d.per) && (decide (a.d.dev = b.d.dev) && decide (a.d.num = b.d.num))))))))
def keepF (g : Nat → MG) (i : Nat) : Bool := decide (i = 0) || !eqM (g i) (g (i - 1))
def ddL (g : Nat → MG) (m : Nat) : List MG := ((List.range m).filter (keepF g)).map g
def allK (g : Nat → MG) : Nat → Bool
  | 0 => true
  | k + 1 => allK g k && keepF g k
def R_cmpct : RSpec
  | [.own 0 n], [.row t 15 m f fr], R => t = 40 ∧ fr = false ∧ n = m ∧ n ≤ 1000000 ∧ f = mgRow (mgOf f) ∧
      ∀ (k : Nat) (h : Nat → MG), lst h k = ddL (mgOf f) n → R (.own 0 k) [(0, .row 40 15 k (mgRow h) false)]
  | _, _, _ => False
def S_cp (g : Nat → MG) (n k : Nat) : St := ⟨[(0, .own 0 n), (3, .int .i64 k)], [(0, .row 40 15 n (mgRow g) false)], 1, []⟩
def L_cp (g : Nat → MG) (n : Nat) : LSpec := fun st Q => canonIs te 1 [0, 3] st (S_cp g n 1) ∧ 2 ≤ n ∧ n ≤ 1000000 ∧
  (allK g n = true → Q (.exit 0) ⟨[(0, .own 0 n)], [(0, .row 40 15 n (mgRow g) false)], 1, []⟩) ∧
  ∀ (w : Nat) (h : Nat → MG), lst h w = ddL g n → Q .ret ⟨[(2, .own 0 w)], [(0, .row 40 15 w (mgRow h) false)], 1, []⟩
structure CI where
  k : Nat
  w : Nat
  h : Nat → MG
def S_ci (_g : Nat → MG) (n k0 : Nat) (i : CI) : St := ⟨[(0, .own 0 n), (3, .int .i64 i.w), (4, .sub 0 15 k0 (n - k0)), (5, .int .i64 i.k)], [(0, .row 40 15 n (mgRow i.h) false)], 1, []⟩
def L_ci (g : Nat → MG) (n k0 : Nat) : LSpec := fun st Q => canonIs te 1 [0, 3, 4, 5] st (S_ci g n k0 ⟨1, k0, g⟩) ∧ (1 ≤ k0 ∧ k0 < n ∧ n ≤ 1000000) ∧ allK g k0 = true ∧ keepF g k0 = false ∧
  ∀ (w : Nat) (h : Nat → MG), w ≤ n → lst h w = ddL g n → Q (.exit 2) ⟨[(0, .own 0 n), (3, .int .i64 w)], [(0, .row 40 15 n (mgRow h) false)], 1, []⟩
end Go.Eng
namespace Go.Eng
def slRow (nn : Nat → Nat) (gg : Nat → Nat → MG) (i : Nat) : List AV := [.view 15 (nn i) (mgRow (gg i))]
def sumN (nn : Nat → Nat) : Nat → Nat
  | 0 => 0
  | k + 1 => sumN nn k + nn k
def catG (nn : Nat → Nat) (gg : Nat → Nat → MG) : Nat → Nat → MG
  | 0, _ => default
  | k + 1, i => if i < sumN nn k then catG nn gg k i else gg k (i - sumN nn k)
def R_concat : RSpec
  | [.own 0 c], [.row t 1 c' f fr], R => ∃ (nn : Nat → Nat) (gg : Nat → Nat → MG), t = 22 ∧ fr = false ∧ c = c' ∧ c ≤ 1000 ∧ (∀ i, i < c → slRow nn gg i = f i) ∧ sumN nn c ≤ 1000000 ∧
      R (.view 15 (sumN nn c) (mgRow (catG nn gg c))) [(0, .row 22 1 c (slRow nn gg) false)]
  | _, _, _ => False
def S_c1 (nn : Nat → Nat) (gg : Nat → Nat → MG) (c k : Nat) : St := ⟨[(0, .own 0 c), (3, .int .i64 (sumN nn k)), (9, .own 0 c), (10, .int .i64 c), (11, .int .i64 k)], [(0, .row 22 1 c (slRow nn gg) false)], 1, []⟩
def L_c1 (nn : Nat → Nat) (gg : Nat → Nat → MG) (c : Nat) : LSpec := fun st Q => canonIs te 1 [0, 3, 9, 10, 11] st (S_c1 nn gg c 0) ∧ c ≤ 1000 ∧ sumN nn c ≤ 1000000 ∧
  Q (.exit 0) ⟨[(0, .own 0 c), (3, .int .i64 (sumN nn c))], [(0, .row 22 1 c (slRow nn gg) false)], 1, []⟩
def S_c2 (nn : Nat → Nat) (gg : Nat → Nat → MG) (c k : Nat) : St := ⟨[(6, .own 1 (sumN nn k)), (25, .own 0 c), (26, .int .i64 c), (27, .int .i64 k)], [(0, .row 22 1 c (slRow nn gg) false), (1, .row 40 15 (sumN nn k) (mgRow (catG nn gg k)) false)], 2, []⟩
def L_c2 (nn : Nat → Nat) (gg : Nat → Nat → MG) (c : Nat) : LSpec := fun st Q => canonIs te 1 [6, 25, 26, 27] (ownNil 6 40 15 st) (S_c2 nn gg c 0) ∧ c ≤ 1000 ∧ sumN nn c ≤ 1000000 ∧
  Q (.exit 2) ⟨[(6, .own 1 (sumN nn c))], [(0, .row 22 1 c (slRow nn gg) false), (1, .row 40 15 (sumN nn c) (mgRow (catG nn gg c)) false)], 2, []⟩
end Go.Eng
