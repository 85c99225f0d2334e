/- Lemmas that the tied card of ProductValid is proved by. -/
import Derived.Test.YtnjaabibmgdeoaaDoorKq
import Derived.Test.YtnjaabibmgdeoaaDoorKo
import Derived.Test.YtnjaabibmgdeoaaDoorKn
import Derived.Test.YtnjaabibmgdeoaaDoorKm
import Derived.Test.YtnjaabibmgdeoaaDoorKj
/- Levels of codes and the validation of products: plain functions. -/
namespace Go.Eng

def levelV (s : List UInt8) : Int := match parseOK s with
  | true => (words s).length
  | false => match decide (s = []) with
    | true => 0
    | false => -1
def S_level : Spec
  | [.str s], [] => some (.int .i64 (levelV s), [], s.length < 4294967281)
  | _, _ => none
def S_is : Spec
  | [.str s], [] => some (.bool (parseOK s), [], s.length < 4294967281)
  | _, _ => none

theorem levelV_lt (s : List UInt8) : decide (levelV s < 1) = !parseOK s := by
  unfold levelV
  cases h : parseOK s with
  | true =>
    have hn : 1 ≤ (words s).length := by rw [words_len]; omega
    have hlt : ¬ (((words s).length : Int) < 1) := by omega
    exact decide_eq_false hlt
  | false => cases decide (s = []) <;> rfl

def freshAt (nm : Nat → List UInt8) : Nat → Nat → Bool
  | 0, _ => true
  | j + 1, k => freshAt nm j k && !decide (nm k = nm j)
def atOK (nm vl : Nat → List UInt8) (k : Nat) : Bool := nameF (nm k) && nameF (vl k) && freshAt nm k k
def atsOK (nm vl : Nat → List UInt8) : Nat → Bool
  | 0 => true
  | k + 1 => atsOK nm vl k && atOK nm vl k
def valF (id code brand : List UInt8) (d c a : Int) (n : Nat) (nm vl : Nat → List UInt8) : Int :=
  bif !validIDF id then 90 else bif !parseOK code then 91 else bif !nameF brand then 92 else bif !decide (qtyF d c a = 0) then 93 else bif decide (12 < n) then 94 else bif atsOK nm vl n then 0 else 94

def nmOf (f : Nat → List AV) (i : Nat) : List UInt8 := strOf ((f i).getD 0 .any)
def vlOf (f : Nat → List AV) (i : Nat) : List UInt8 := strOf ((f i).getD 1 .any)
def atRow (nm vl : Nat → List UInt8) : Nat → List AV := fun i => [.str (nm i), .str (vl i)]
def R_val : RSpec
  | [.agg [.str id, .str code, .str brand, .int .i64 d, .int .i64 c, .int .i64 a, .nil]], [], R => code.length < 4294967281 ∧ brand.length < 4294967281 ∧ R (.int .i64 (valF id code brand d c a 0 (fun _ => []) (fun _ => []))) []
  | [.agg [.str id, .str code, .str brand, .int .i64 d, .int .i64 c, .int .i64 a, .own 0 n]], [.row t 2 m f fr], R => t = 52 ∧ fr = false ∧ n = m ∧ n ≤ 4294967281 ∧ code.length < 4294967281 ∧ brand.length < 4294967281 ∧ (∀ i, i < n → (nmOf f i).length < 4294967281 ∧ (vlOf f i).length < 4294967281) ∧ f = atRow (nmOf f) (vlOf f) ∧
      R (.int .i64 (valF id code brand d c a n (nmOf f) (vlOf f))) [(0, .row 52 2 n f false)]
  | _, _, _ => False
end Go.Eng

/- Levels of codes. -/
namespace Go.Eng
open Go.Proofs Go.RowKit
variable {C : Ctx}
set_option maxRecDepth 20000
theorem nf_level (s : List UInt8) (R : AV → List (Nat × AObj) → Prop) : wpFn te [(35, .rel R_parse)] [] 0 Tryd.f22 [.str s] [] R = (List.length s < 4294967281 ∧ condP (parseOK s) ((∀ (i : Nat), i < List.length (words s) → true = true) ∧ R (.int .i64 (↑(List.length (words s)) : Int)) []) (condP (!decide (s = [])) (R (.int .i64 (-1 : Int)) []) (R (.int .i64 0) []))) := by kernel_rfl
theorem nf_is (s : List UInt8) (R : AV → List (Nat × AObj) → Prop) : wpFn te [(40, .rel R_parse)] [] 0 Tryd.f26 [.str s] [] R = (List.length s < 4294967281 ∧ condP (parseOK s) ((∀ (i : Nat), i < List.length (words s) → true = true) ∧ R (.bool true) []) (R (.bool false) [])) := by kernel_rfl

theorem level_ok (hP : C.P = Tryd.prog) (hL : ∀ w, C.laid w → LaidW w) : SpecOK C 22 S_level := by
  rintro args objs U Os vc h hvc
  unfold S_level at h
  split at h <;> simp only [Option.some.injEq, Prod.mk.injEq, reduceCtorEq] at h
  rename_i s
  obtain ⟨rfl, rfl, rfl⟩ := h
  refine SpecOK.wp0 (prg hP) [(35, .rel R_parse)] 0 (.cons (parse_ok hP hL) .nil) (hP ▸ Tryd.func22) rfl rfl rfl ?_
  rw [nf_level]
  refine ⟨hvc, condP_intro (fun h => ⟨fun _ _ => rfl, ?_, rfl⟩) (fun h => condP_ndec (fun h' => ⟨?_, rfl⟩) (fun h' => ⟨?_, rfl⟩))⟩
  · unfold levelV; rw [h]
  · unfold levelV; rw [h, decide_eq_false h']
  · unfold levelV; rw [h, decide_eq_true h']

theorem is_ok (hP : C.P = Tryd.prog) : SpecOK C 26 S_is := by
  rintro args objs U Os vc h hvc
  unfold S_is at h
  split at h <;> simp only [Option.some.injEq, Prod.mk.injEq, reduceCtorEq] at h
  rename_i s
  obtain ⟨rfl, rfl, rfl⟩ := h
  refine SpecOK.wp0 (prg hP) [(40, .rel R_parse)] 0 (.cons (rp_ok hP) .nil) (hP ▸ Tryd.func26) rfl rfl rfl ?_
  rw [nf_is]
  exact ⟨hvc, condP_intro (fun h => ⟨fun _ _ => rfl, by rw [h], rfl⟩) (fun h => ⟨by rw [h], rfl⟩)⟩
end Go.Eng

/- The validation of products: the loops' states. -/
namespace Go.Eng

def seenM (nm : Nat → List UInt8) : Nat → List (AV × AV)
  | 0 => []
  | k + 1 => seenM nm k ++ [(.str (nm k), .bool true)]
def S_va (n : Nat) (nm vl : Nat → List UInt8) (k : Nat) : St := ⟨[(3, .map 1), (33, .own 0 n), (34, .int .i64 n), (35, .int .i64 k)], [(0, .row 52 2 n (atRow nm vl) false), (1, .amap (seenM nm k))], 2, []⟩
def L_va (n : Nat) (nm vl : Nat → List UInt8) : LSpec := fun st Q => canonIs te 1 [3, 33, 34, 35] st (S_va n nm vl 0) ∧ n ≤ 12 ∧ (∀ i, i < n → (nm i).length < 4294967281 ∧ (vl i).length < 4294967281) ∧
  condP (atsOK nm vl n) (Q (.exit 1) ⟨[], [(0, .row 52 2 n (atRow nm vl) false)], 1, []⟩) (Q .ret ⟨[(2, .int .i64 94)], [(0, .row 52 2 n (atRow nm vl) false)], 1, []⟩)

theorem mget_seen (nm : Nat → List UInt8) (x : List UInt8) : ∀ j, mget (seenM nm j) (.str x) = bif (List.range j).any (fun i => decide (nm i = x)) then some (.bool true) else none
  | 0 => rfl
  | j + 1 => by
    have app : ∀ (l : List (AV × AV)) (k : AV) (p : AV × AV), mget (l ++ [p]) k = (mget l k).or (bif keq p.1 k then some p.2 else none) := by
      intro l k p
      induction l with
      | nil => simp only [List.nil_append, mget]; cases keq p.1 k <;> rfl
      | cons q l ih =>
        simp only [List.cons_append, mget]
        cases keq q.1 k with
        | true => rfl
        | false => exact ih
    rw [seenM, app, mget_seen nm x j, List.range_succ, List.any_append]
    simp only [List.any_cons, List.any_nil, Bool.or_false, keq]
    cases (List.range j).any (fun i => decide (nm i = x)) <;> cases decide (nm j = x) <;> rfl
theorem fresh_any (nm : Nat → List UInt8) (k : Nat) : ∀ j, freshAt nm j k = !(List.range j).any (fun i => decide (nm i = nm k))
  | 0 => rfl
  | j + 1 => by
    rw [freshAt, fresh_any nm k j, List.range_succ, List.any_append]
    simp only [List.any_cons, List.any_nil, Bool.or_false, Bool.not_or]
    congr 2
    simp only [eq_comm]
theorem mset_fresh (nm : Nat → List UInt8) (x : List UInt8) (v : AV) : ∀ j, (List.range j).any (fun i => decide (nm i = x)) = false → mset (seenM nm j) (.str x) v = seenM nm j ++ [(.str x, v)] := by
  have app : ∀ (l : List (AV × AV)) (k v : AV), (∀ p ∈ l, keq p.1 k = false) → mset l k v = l ++ [(k, v)] := by
    intro l k v h
    induction l with
    | nil => rfl
    | cons q l ih =>
      simp only [List.cons_append, mset]
      rw [h q (List.mem_cons_self ..), ih (fun p hp => h p (List.mem_cons_of_mem _ hp))]
  intro j hj
  apply app
  induction j with
  | zero => intro p hp; cases hp
  | succ j ih =>
    rw [List.range_succ, List.any_append, Bool.or_eq_false_iff] at hj
    intro p hp
    rw [seenM, List.mem_append] at hp
    rcases hp with hp | hp
    · exact ih hj.1 p hp
    · obtain rfl := List.mem_singleton.1 hp
      simpa [keq] using hj.2
theorem seen_keys (nm vl : Nat → List UInt8) : ∀ k, atsOK nm vl k = true → KeysOK .string (seenM nm k)
  | 0, _ => ⟨rfl, List.nodup_nil⟩
  | k + 1, h => by
    rw [atsOK, Bool.and_eq_true] at h
    obtain ⟨h1, h2⟩ := seen_keys nm vl k h.1
    have hf : freshAt nm k k = true := by
      have := h.2
      unfold atOK at this
      rw [Bool.and_eq_true] at this
      exact this.2
    rw [fresh_any, Bool.not_eq_true'] at hf
    have hmem : ∀ j, (List.range j).any (fun i => decide (nm i = nm k)) = false → AV.str (nm k) ∉ (seenM nm j).map Prod.fst := by
      intro j
      induction j with
      | zero => intro _ hm; cases hm
      | succ j ih =>
        intro hj hm
        rw [List.range_succ, List.any_append, Bool.or_eq_false_iff] at hj
        rw [seenM, List.map_append, List.mem_append] at hm
        rcases hm with hm | hm
        · exact ih hj.1 hm
        · have := List.mem_singleton.1 hm
          injection this with this
          have hj2 := hj.2
          simp [this.symm] at hj2
    refine ⟨?_, ?_⟩
    · rw [seenM, List.all_append, h1]; rfl
    · rw [seenM, List.map_append, List.nodup_append]
      refine ⟨h2, by simp, ?_⟩
      intro a ha b hb hab
      obtain rfl := List.mem_singleton.1 hb
      subst hab
      exact hmem k hf ha
theorem seen_rn (σ : Nat → Option Nat) (nm : Nat → List UInt8) : ∀ k, (seenM nm k).map (fun p => (p.1.rn σ, p.2.rn σ)) = seenM nm k
  | 0 => rfl
  | k + 1 => by rw [seenM, List.map_append, seen_rn σ nm k]; rfl

end Go.Eng

/- The validation of products. -/
namespace Go.Eng
open Go.Proofs Go.RowKit
variable {C : Ctx}
set_option maxRecDepth 20000
theorem nf_val0 (id code brand : List UInt8) (d c a : Int) (R : AV → List (Nat × AObj) → Prop) : wpFn te [(21, .det S_validID), (22, .det S_level), (23, .det S_name), (24, .det S_qty)] [] 2 Tryd.f8 [.agg [.str id, .str code, .str brand, .int .i64 d, .int .i64 c, .int .i64 a, .nil]] [] R = (True ∧ condP (!validIDF id) (R (.int .i64 90) []) (List.length code < 4294967281 ∧ condP (decide (levelV code < (1 : Int))) (R (.int .i64 91) []) (True ∧ condP (!nameF brand) (R (.int .i64 92) []) (True ∧ condP (!decide (qtyF d c a = (0 : Int))) (R (.int .i64 93) []) (R (.int .i64 0) []))))) := by kernel_rfl
theorem nf_val1 (id code brand : List UInt8) (d c a : Int) (n : Nat) (nm vl : Nat → List UInt8) (R : AV → List (Nat × AObj) → Prop) : wpFn te [(21, .det S_validID), (22, .det S_level), (23, .det S_name), (24, .det S_qty)] [(13, L_va n nm vl)] 2 Tryd.f8 [.agg [.str id, .str code, .str brand, .int .i64 d, .int .i64 c, .int .i64 a, .own 0 n]] [.row 52 2 n (atRow nm vl) false] R = (True ∧ condP (!validIDF id) ((∀ (i : Nat), i < n → true = true) ∧ ∃ (O' : List (Nat × AObj)), RowsEq [(0, .row 52 2 n (atRow nm vl) false)] O' ∧ R (.int .i64 90) O') (List.length code < 4294967281 ∧ condP (decide (levelV code < (1 : Int))) ((∀ (i : Nat), i < n → true = true) ∧ ∃ (O' : List (Nat × AObj)), RowsEq [(0, .row 52 2 n (atRow nm vl) false)] O' ∧ R (.int .i64 91) O') (True ∧ condP (!nameF brand) ((∀ (i : Nat), i < n → true = true) ∧ ∃ (O' : List (Nat × AObj)), RowsEq [(0, .row 52 2 n (atRow nm vl) false)] O' ∧ R (.int .i64 92) O') (True ∧ condP (!decide (qtyF d c a = (0 : Int))) ((∀ (i : Nat), i < n → true = true) ∧ ∃ (O' : List (Nat × AObj)), RowsEq [(0, .row 52 2 n (atRow nm vl) false)] O' ∧ R (.int .i64 93) O') (condP (decide ((12 : Int) < (↑n : Int))) ((∀ (i : Nat), i < n → true = true) ∧ ∃ (O' : List (Nat × AObj)), RowsEq [(0, .row 52 2 n (atRow nm vl) false)] O' ∧ R (.int .i64 94) O') ((TEq [(3, .map 1), (33, .own 0 n), (34, .int .i64 (↑n : Int)), (35, .int .i64 0)] [(3, .map 1), (33, .own 0 n), (34, .int .i64 (↑n : Int)), (35, .int .i64 (↑0 : Int))] ∧ RowsEq [(0, .row 52 2 n (atRow nm vl) false), (1, .amap (List.map (fun (p : AV × AV) => (AV.rn (ren 1 [(66, 1)]) (Prod.fst p), AV.rn (ren 1 [(66, 1)]) (Prod.snd p))) []))] [(0, .row 52 2 n (atRow nm vl) false), (1, .amap (seenM nm 0))]) ∧ n ≤ 12 ∧ (∀ (i : Nat), i < n → List.length (nm i) < 4294967281 ∧ List.length (vl i) < 4294967281) ∧ condP (atsOK nm vl n) ((∀ (i : Nat), i < n → true = true) ∧ ∃ (O' : List (Nat × AObj)), RowsEq [(0, .row 52 2 n (atRow nm vl) false)] O' ∧ R (.int .i64 0) O') ((∀ (i : Nat), i < n → true = true) ∧ ∃ (O' : List (Nat × AObj)), RowsEq [(0, .row 52 2 n (atRow nm vl) false)] O' ∧ R (.int .i64 94) O'))))))) := by kernel_rfl
theorem nf_va_round (n : Nat) (nm vl : Nat → List UInt8) (k : Nat) (P : Nat → Prop) (R : Exit → St → Prop) : roundP ⟨te, [(23, .det S_name)], [], 1, 59, 0⟩ (loopB Tryd.f8 13) [3, 33, 34, 35] [] [2] (S_va n nm vl) P R (S_va n nm vl k) = (condP (decide ((↑k : Int) < (↑n : Int))) (((0 : Int) ≤ (↑k : Int) ∧ (↑k : Int) < (↑n : Int)) ∧ (Int.toNat (↑k : Int) < n ∧ 2 = 2) ∧ True ∧ condP (!nameF (nm (Int.toNat (↑k : Int)))) ((∀ (i : Nat), i < n → true = true) ∧ ∃ (O' : List (Nat × AObj)), RowsEq [(0, .row 52 2 n (atRow nm vl) false)] O' ∧ R .ret (St.mk [(2, .int .i64 94)] O' 1 [])) (True ∧ condP (!nameF (vl (Int.toNat (↑k : Int)))) ((∀ (i : Nat), i < n → true = true) ∧ ∃ (O' : List (Nat × AObj)), RowsEq [(0, .row 52 2 n (atRow nm vl) false)] O' ∧ R .ret (St.mk [(2, .int .i64 94)] O' 1 [])) ((KeysOK (TI.desc (TI.mk TypeDesc.string 1 16 (Value.string (ByteArray.mk #[])) false)) (seenM nm k) ∧ .bool (boolOf (Option.getD (mget (seenM nm k) (.str (nm (Int.toNat (↑k : Int))))) (.bool false))) = Option.getD (mget (seenM nm k) (.str (nm (Int.toNat (↑k : Int))))) (.bool false)) ∧ condP (boolOf (Option.getD (mget (seenM nm k) (.str (nm (Int.toNat (↑k : Int))))) (.bool false))) ((∀ (i : Nat), i < n → true = true) ∧ ∃ (O' : List (Nat × AObj)), RowsEq [(0, .row 52 2 n (atRow nm vl) false)] O' ∧ R .ret (St.mk [(2, .int .i64 94)] O' 1 [])) (KeysOK (TI.desc (TI.mk TypeDesc.string 1 16 (Value.string (ByteArray.mk #[])) false)) (seenM nm k) ∧ inR .i64 ((↑k : Int) + (1 : Int)) ∧ ∃ (i' : Nat), (TEq [(3, .map 1), (33, .own 0 n), (34, .int .i64 (↑n : Int)), (35, .int .i64 ((↑k : Int) + (1 : Int)))] [(3, .map 1), (33, .own 0 n), (34, .int .i64 (↑n : Int)), (35, .int .i64 (↑i' : Int))] ∧ RowsEq [(0, .row 52 2 n (atRow nm vl) false), (1, .amap (List.map (fun (p : AV × AV) => (AV.rn (ren 1 [(1, 1)]) (Prod.fst p), AV.rn (ren 1 [(1, 1)]) (Prod.snd p))) (mset (seenM nm k) (.str (nm (Int.toNat (↑k : Int)))) (.bool true))))] [(0, .row 52 2 n (atRow nm vl) false), (1, .amap (seenM nm i'))]) ∧ P i')))) ((∀ (i : Nat), i < n → true = true) ∧ ∃ (O' : List (Nat × AObj)), RowsEq [(0, .row 52 2 n (atRow nm vl) false)] O' ∧ R (.exit 1) (St.mk [] O' 1 []))) := by kernel_rfl
theorem val_loop (hP : C.P = Tryd.prog) (n : Nat) (nm vl : Nat → List UInt8) : LoopOK C 1 59 (loopC Tryd.f8 13) (L_va n nm vl) := by
  rintro st Q ⟨h0, hn, hs, hQ⟩
  have hR := condP_elim hQ
  refine LoopOK.mk (prg hP) [(23, .det S_name)] 0 (.cons (name_ok hP) .nil) [3, 33, 34, 35] [] [2] (S_va n nm vl) (fun k => k ≤ n ∧ atsOK nm vl k = true) (fun k => n - k) 0 ⟨by omega, rfl⟩ h0 (fun k hk => ?_) (fun i => ⟨fun _ _ => rfl, trivial⟩)
  obtain ⟨hkn, hok⟩ := hk
  rw [nf_va_round]
  have hbad : ∀ m, k ≤ m → k < m → atOK nm vl k = false → atsOK nm vl m = false := by
    intro m
    induction m with
    | zero => intro _ h; omega
    | succ m ih =>
      intro _ h2 h3
      rw [atsOK]
      by_cases hkm : k = m
      · subst hkm; rw [h3, Bool.and_false]
      · rw [ih (by omega) (by omega) h3, Bool.false_and]
  rw [Int.toNat_natCast]
  refine condP_dec (fun h1 => ?_) (fun h1 => ⟨fun _ _ => rfl, _, rowsEq1, ?_⟩)
  · have hlt : k < n := by omega
    have hfail : atOK nm vl k = false → ((∀ (i : Nat), i < n → true = true) ∧ ∃ (O' : List (Nat × AObj)), RowsEq [(0, .row 52 2 n (atRow nm vl) false)] O' ∧ Q .ret (St.mk [(2, .int .i64 94)] O' 1 [])) := fun h => ⟨fun _ _ => rfl, _, rowsEq1, hR.2 (hbad n hkn hlt h)⟩
    have hk := seen_keys nm vl k hok
    rw [mget_seen]
    refine ⟨by omega, ⟨hlt, rfl⟩, trivial, condP_not (fun h2 => hfail (by unfold atOK; rw [h2]; rfl)) (fun h2 => ⟨trivial, condP_not (fun h3 => hfail (by unfold atOK; rw [h3, Bool.and_false]; rfl)) (fun h3 => ⟨⟨hk, ?_⟩, ?_⟩)⟩)⟩
    · cases (List.range k).any (fun i => decide (nm i = nm k)) <;> rfl
    · cases ha : (List.range k).any (fun i => decide (nm i = nm k)) with
      | true => exact hfail (by unfold atOK; rw [fresh_any, ha]; simp)
      | false =>
        have hat : atOK nm vl k = true := by unfold atOK; rw [h2, h3, fresh_any, ha]; rfl
        refine ⟨hk, by simp only [inR]; omega, k + 1, ⟨rfl, ?_⟩, ⟨by omega, by rw [atsOK, hok, hat]; rfl⟩, by omega⟩
        rw [mset_fresh nm _ _ k ha, show seenM nm k ++ [(.str (nm k), AV.bool true)] = seenM nm (k + 1) from rfl, seen_rn]
        exact ⟨⟨rfl, rfl, rfl, rfl, rfl, fun _ _ => rfl⟩, rfl, trivial⟩
  · have : k = n := by omega
    subst this
    exact hR.1 hok

theorem val_ok (hP : C.P = Tryd.prog) (hL : ∀ w, C.laid w → LaidW w) : RSpecOK C 8 R_val := by
  rintro args objs R h
  unfold R_val at h
  split at h
  · rename_i id code brand d c a
    obtain ⟨h1, h2, hR⟩ := h
    unfold valF at hR
    refine RSpecOK.wpL (prg hP) [(21, .det S_validID), (22, .det S_level), (23, .det S_name), (24, .det S_qty)] [] 2 (.cons (validID_ok hP (trim_ok hP)) (.cons (level_ok hP hL) (.cons (name_ok hP) (.cons (qty_ok hP) .nil)))) (hP ▸ Tryd.func8) rfl rfl rfl [] (by kernel_rfl) trivial ?_
    rw [nf_val0, levelV_lt]
    refine ⟨trivial, condP_not (fun q1 => ?_) (fun q1 => ⟨h1, condP_not (fun q2 => ?_) (fun q2 => ⟨trivial, condP_not (fun q3 => ?_) (fun q3 => ⟨trivial, condP_ndec (fun q4 => ?_) (fun q4 => ?_)⟩)⟩)⟩)⟩
    · rw [q1] at hR; exact hR
    · rw [q1, q2] at hR; exact hR
    · rw [q1, q2, q3] at hR; exact hR
    · rw [q1, q2, q3, decide_eq_false q4] at hR; exact hR
    · rw [q1, q2, q3, decide_eq_true q4] at hR; exact hR
  · rename_i id code brand d c a n t m f fr
    obtain ⟨rfl, rfl, rfl, hn, h1, h2, hs, hf, hR⟩ := h
    rw [hf]
    generalize nmOf f = nm at *
    generalize vlOf f = vl at *
    rw [hf] at hR
    unfold valF at hR
    refine RSpecOK.wpL (prg hP) [(21, .det S_validID), (22, .det S_level), (23, .det S_name), (24, .det S_qty)] [(13, L_va n nm vl)] 2 (.cons (validID_ok hP (trim_ok hP)) (.cons (level_ok hP hL) (.cons (name_ok hP) (.cons (qty_ok hP) .nil)))) (hP ▸ Tryd.func8) rfl rfl rfl [(loopC Tryd.f8 13, L_va n nm vl)] (by kernel_rfl) ⟨val_loop hP n nm vl, trivial⟩ ?_
    rw [nf_val1, levelV_lt]
    refine ⟨trivial, condP_not (fun q1 => ⟨fun _ _ => rfl, _, rowsEq1, ?_⟩) (fun q1 => ⟨h1, condP_not (fun q2 => ⟨fun _ _ => rfl, _, rowsEq1, ?_⟩) (fun q2 => ⟨trivial, condP_not (fun q3 => ⟨fun _ _ => rfl, _, rowsEq1, ?_⟩) (fun q3 => ⟨trivial, condP_ndec (fun q4 => ⟨fun _ _ => rfl, _, rowsEq1, ?_⟩) (fun q4 => condP_dec (fun q5 => ⟨fun _ _ => rfl, _, rowsEq1, ?_⟩) (fun q5 => ⟨⟨rfl, ⟨⟨rfl, rfl, rfl, rfl, rfl, fun _ _ => rfl⟩, rfl, trivial⟩⟩, by omega, hs, condP_intro (fun q6 => ⟨fun _ _ => rfl, _, rowsEq1, ?_⟩) (fun q6 => ⟨fun _ _ => rfl, _, rowsEq1, ?_⟩)⟩))⟩)⟩)⟩)⟩
    · rw [q1] at hR; exact hR
    · rw [q1, q2] at hR; exact hR
    · rw [q1, q2, q3] at hR; exact hR
    · rw [q1, q2, q3, decide_eq_false q4] at hR; exact hR
    · rw [q1, q2, q3, decide_eq_true q4, decide_eq_true (show 12 < n by omega)] at hR; exact hR
    · rw [q1, q2, q3, decide_eq_true q4, decide_eq_false (show ¬ 12 < n by omega), q6] at hR; exact hR
    · rw [q1, q2, q3, decide_eq_true q4, decide_eq_false (show ¬ 12 < n by omega), q6] at hR; exact hR
  · exact h.elim

end Go.Eng

/- The reference of the validation: the loops' states. -/
namespace Go.Eng

structure PV where
  id : List UInt8
  code : List UInt8
  brand : List UInt8
  d : Int
  c : Int
  a : Int
def S_vr (p : PV) (n : Nat) (nm vl : Nat → List UInt8) (k : Nat) : St := ⟨[(1, .ptr 1 0), (28, .own 0 n), (29, .int .i64 n), (30, .int .i64 k)], [(0, .row 52 2 n (atRow nm vl) false), (1, .cells [.str p.id, .str p.code, .str p.brand, .int .i64 p.d, .int .i64 p.c, .int .i64 p.a, .own 0 n] 26)], 2, []⟩
def S_vi (p : PV) (n : Nat) (nm vl : Nat → List UInt8) (k j : Nat) : St := ⟨[(1, .ptr 1 0), (4, .ptr 2 0), (28, .own 0 n), (29, .int .i64 n), (30, .int .i64 k), (48, .own 0 k), (49, .int .i64 k), (50, .int .i64 j)], [(0, .row 52 2 n (atRow nm vl) false), (1, .cells [.str p.id, .str p.code, .str p.brand, .int .i64 p.d, .int .i64 p.c, .int .i64 p.a, .own 0 n] 26), (2, .cells [.str (nm k), .str (vl k)] 52)], 3, []⟩
def L_vi (p : PV) (n : Nat) (nm vl : Nat → List UInt8) (k : Nat) : LSpec := fun st Q => canonIs te 1 [1, 4, 28, 29, 30, 48, 49, 50] st (S_vi p n nm vl k 0) ∧ k < n ∧ n ≤ 12 ∧
  condP (freshAt nm k k) (Q (.exit 2) (S_vr p n nm vl k)) (Q .ret ⟨[(2, .int .i64 94)], [(0, .row 52 2 n (atRow nm vl) false)], 1, []⟩)
def L_vr (p : PV) (n : Nat) (nm vl : Nat → List UInt8) : LSpec := fun st Q => canonIs te 1 [1, 28, 29, 30] st (S_vr p n nm vl 0) ∧ n ≤ 12 ∧ (∀ i, i < n → (nm i).length < 4294967281 ∧ (vl i).length < 4294967281) ∧
  condP (atsOK nm vl n) (Q (.exit 0) ⟨[], [(0, .row 52 2 n (atRow nm vl) false)], 1, []⟩) (Q .ret ⟨[(2, .int .i64 94)], [(0, .row 52 2 n (atRow nm vl) false)], 1, []⟩)
end Go.Eng

/- The reference of the validation. -/
namespace Go.Eng
open Go.Proofs Go.RowKit
variable {C : Ctx}
set_option maxRecDepth 20000
theorem nf_vr0 (id code brand : List UInt8) (d c a : Int) (R : AV → List (Nat × AObj) → Prop) : wpFn te [(25, .det S_validID), (26, .det S_is), (27, .det S_nameR), (28, .det S_qty)] [] 2 Tryd.f9 [.agg [.str id, .str code, .str brand, .int .i64 d, .int .i64 c, .int .i64 a, .nil]] [] R = (True ∧ condP (!validIDF id) (R (.int .i64 90) []) (List.length code < 4294967281 ∧ condP (!parseOK code) (R (.int .i64 91) []) (List.length brand ≤ 9223372036854775806 ∧ condP (!nameF brand) (R (.int .i64 92) []) (True ∧ condP (!decide (qtyF d c a = (0 : Int))) (R (.int .i64 93) []) (R (.int .i64 0) []))))) := by kernel_rfl
theorem nf_vr1 (id code brand : List UInt8) (d c a : Int) (n : Nat) (nm vl : Nat → List UInt8) (R : AV → List (Nat × AObj) → Prop) : wpFn te [(25, .det S_validID), (26, .det S_is), (27, .det S_nameR), (28, .det S_qty)] [(12, L_vr ⟨id, code, brand, d, c, a⟩ n nm vl)] 2 Tryd.f9 [.agg [.str id, .str code, .str brand, .int .i64 d, .int .i64 c, .int .i64 a, .own 0 n]] [.row 52 2 n (atRow nm vl) false] R = (True ∧ condP (!validIDF id) ((∀ (i : Nat), i < n → true = true) ∧ ∃ (O' : List (Nat × AObj)), RowsEq [(0, .row 52 2 n (atRow nm vl) false)] O' ∧ R (.int .i64 90) O') (List.length code < 4294967281 ∧ condP (!parseOK code) ((∀ (i : Nat), i < n → true = true) ∧ ∃ (O' : List (Nat × AObj)), RowsEq [(0, .row 52 2 n (atRow nm vl) false)] O' ∧ R (.int .i64 91) O') (List.length brand ≤ 9223372036854775806 ∧ condP (!nameF brand) ((∀ (i : Nat), i < n → true = true) ∧ ∃ (O' : List (Nat × AObj)), RowsEq [(0, .row 52 2 n (atRow nm vl) false)] O' ∧ R (.int .i64 92) O') (True ∧ condP (!decide (qtyF d c a = (0 : Int))) ((∀ (i : Nat), i < n → true = true) ∧ ∃ (O' : List (Nat × AObj)), RowsEq [(0, .row 52 2 n (atRow nm vl) false)] O' ∧ R (.int .i64 93) O') (condP (decide ((12 : Int) < (↑n : Int))) ((∀ (i : Nat), i < n → true = true) ∧ ∃ (O' : List (Nat × AObj)), RowsEq [(0, .row 52 2 n (atRow nm vl) false)] O' ∧ R (.int .i64 94) O') ((TEq [(1, .ptr 1 0), (28, .own 0 n), (29, .int .i64 (↑n : Int)), (30, .int .i64 0)] [(1, .ptr 1 0), (28, .own 0 n), (29, .int .i64 (↑n : Int)), (30, .int .i64 (↑0 : Int))] ∧ RowsEq [(0, .row 52 2 n (atRow nm vl) false), (1, .cells [.str id, .str code, .str brand, .int .i64 d, .int .i64 c, .int .i64 a, .own 0 n] 26)] [(0, .row 52 2 n (atRow nm vl) false), (1, .cells [.str (PV.id (PV.mk id code brand d c a)), .str (PV.code (PV.mk id code brand d c a)), .str (PV.brand (PV.mk id code brand d c a)), .int .i64 (PV.d (PV.mk id code brand d c a)), .int .i64 (PV.c (PV.mk id code brand d c a)), .int .i64 (PV.a (PV.mk id code brand d c a)), .own 0 n] 26)]) ∧ n ≤ 12 ∧ (∀ (i : Nat), i < n → List.length (nm i) < 4294967281 ∧ List.length (vl i) < 4294967281) ∧ condP (atsOK nm vl n) ((∀ (i : Nat), i < n → true = true) ∧ ∃ (O' : List (Nat × AObj)), RowsEq [(0, .row 52 2 n (atRow nm vl) false)] O' ∧ R (.int .i64 0) O') ((∀ (i : Nat), i < n → true = true) ∧ ∃ (O' : List (Nat × AObj)), RowsEq [(0, .row 52 2 n (atRow nm vl) false)] O' ∧ R (.int .i64 94) O'))))))) := by kernel_rfl
theorem nf_vr_round (p : PV) (n : Nat) (nm vl : Nat → List UInt8) (k : Nat) (P : Nat → Prop) (R : Exit → St → Prop) : roundP ⟨te, [(27, .det S_nameR)], [(17, L_vi p n nm vl k)], 1, 61, 0⟩ (loopB Tryd.f9 12) [1, 28, 29, 30] [] [2] (S_vr p n nm vl) P R (S_vr p n nm vl k) = (condP (decide ((↑k : Int) < (↑n : Int))) (((0 : Int) ≤ (↑k : Int) ∧ (↑k : Int) < (↑n : Int)) ∧ (Int.toNat (↑k : Int) < n ∧ 2 = 2) ∧ List.length (nm (Int.toNat (↑k : Int))) ≤ 9223372036854775806 ∧ condP (!nameF (nm (Int.toNat (↑k : Int)))) ((∀ (i : Nat), i < n → true = true) ∧ ∃ (O' : List (Nat × AObj)), RowsEq [(0, .row 52 2 n (atRow nm vl) false)] O' ∧ R .ret (St.mk [(2, .int .i64 94)] O' 1 [])) (List.length (vl (Int.toNat (↑k : Int))) ≤ 9223372036854775806 ∧ condP (!nameF (vl (Int.toNat (↑k : Int)))) ((∀ (i : Nat), i < n → true = true) ∧ ∃ (O' : List (Nat × AObj)), RowsEq [(0, .row 52 2 n (atRow nm vl) false)] O' ∧ R .ret (St.mk [(2, .int .i64 94)] O' 1 [])) (((0 : Int) ≤ (↑k : Int) ∧ (↑k : Int) ≤ (↑n : Int)) ∧ (TEq [(1, .ptr 1 0), (4, .ptr 2 0), (28, .own 0 n), (29, .int .i64 (↑n : Int)), (30, .int .i64 (↑k : Int)), (48, .own 0 (Int.toNat (↑k : Int))), (49, .int .i64 (↑(Int.toNat (↑k : Int)) : Int)), (50, .int .i64 0)] [(1, .ptr 1 0), (4, .ptr 2 0), (28, .own 0 n), (29, .int .i64 (↑n : Int)), (30, .int .i64 (↑k : Int)), (48, .own 0 k), (49, .int .i64 (↑k : Int)), (50, .int .i64 (↑0 : Int))] ∧ RowsEq [(0, .row 52 2 n (atRow nm vl) false), (1, .cells [.str (PV.id p), .str (PV.code p), .str (PV.brand p), .int .i64 (PV.d p), .int .i64 (PV.c p), .int .i64 (PV.a p), .own 0 n] 26), (2, .cells [.str (nm (Int.toNat (↑k : Int))), .str (vl (Int.toNat (↑k : Int)))] 52)] [(0, .row 52 2 n (atRow nm vl) false), (1, .cells [.str (PV.id p), .str (PV.code p), .str (PV.brand p), .int .i64 (PV.d p), .int .i64 (PV.c p), .int .i64 (PV.a p), .own 0 n] 26), (2, .cells [.str (nm k), .str (vl k)] 52)]) ∧ k < n ∧ n ≤ 12 ∧ condP (freshAt nm k k) (inR .i64 ((↑k : Int) + (1 : Int)) ∧ ∃ (i' : Nat), (TEq [(1, .ptr 1 0), (28, .own 0 n), (29, .int .i64 (↑n : Int)), (30, .int .i64 ((↑k : Int) + (1 : Int)))] [(1, .ptr 1 0), (28, .own 0 n), (29, .int .i64 (↑n : Int)), (30, .int .i64 (↑i' : Int))] ∧ RowsEq [(0, .row 52 2 n (atRow nm vl) false), (1, .cells [.str (PV.id p), .str (PV.code p), .str (PV.brand p), .int .i64 (PV.d p), .int .i64 (PV.c p), .int .i64 (PV.a p), .own 0 n] 26)] [(0, .row 52 2 n (atRow nm vl) false), (1, .cells [.str (PV.id p), .str (PV.code p), .str (PV.brand p), .int .i64 (PV.d p), .int .i64 (PV.c p), .int .i64 (PV.a p), .own 0 n] 26)]) ∧ P i') ((∀ (i : Nat), i < n → true = true) ∧ ∃ (O' : List (Nat × AObj)), RowsEq [(0, .row 52 2 n (atRow nm vl) false)] O' ∧ R .ret (St.mk [(2, .int .i64 94)] O' 1 []))))) ((∀ (i : Nat), i < n → true = true) ∧ ∃ (O' : List (Nat × AObj)), RowsEq [(0, .row 52 2 n (atRow nm vl) false)] O' ∧ R (.exit 0) (St.mk [] O' 1 []))) := by kernel_rfl
theorem nf_vi_round (p : PV) (n : Nat) (nm vl : Nat → List UInt8) (k j : Nat) (P : Nat → Prop) (R : Exit → St → Prop) : roundP ⟨te, [], [], 1, 61, 0⟩ (loopB Tryd.f9 17) [1, 4, 28, 29, 30, 48, 49, 50] [1, 28, 29, 30] [2] (S_vi p n nm vl k) P R (S_vi p n nm vl k j) = (condP (decide ((↑j : Int) < (↑k : Int))) (((0 : Int) ≤ (↑j : Int) ∧ (↑j : Int) < (↑k : Int)) ∧ (Int.toNat (↑j : Int) < n ∧ 2 = 2) ∧ condP (decide (nm k = nm (Int.toNat (↑j : Int)))) ((∀ (i : Nat), i < n → true = true) ∧ ∃ (O' : List (Nat × AObj)), RowsEq [(0, .row 52 2 n (atRow nm vl) false)] O' ∧ R .ret (St.mk [(2, .int .i64 94)] O' 1 [])) (inR .i64 ((↑j : Int) + (1 : Int)) ∧ ∃ (i' : Nat), (TEq [(1, .ptr 1 0), (4, .ptr 2 0), (28, .own 0 n), (29, .int .i64 (↑n : Int)), (30, .int .i64 (↑k : Int)), (48, .own 0 k), (49, .int .i64 (↑k : Int)), (50, .int .i64 ((↑j : Int) + (1 : Int)))] [(1, .ptr 1 0), (4, .ptr 2 0), (28, .own 0 n), (29, .int .i64 (↑n : Int)), (30, .int .i64 (↑k : Int)), (48, .own 0 k), (49, .int .i64 (↑k : Int)), (50, .int .i64 (↑i' : Int))] ∧ RowsEq [(0, .row 52 2 n (atRow nm vl) false), (1, .cells [.str (PV.id p), .str (PV.code p), .str (PV.brand p), .int .i64 (PV.d p), .int .i64 (PV.c p), .int .i64 (PV.a p), .own 0 n] 26), (2, .cells [.str (nm k), .str (vl k)] 52)] [(0, .row 52 2 n (atRow nm vl) false), (1, .cells [.str (PV.id p), .str (PV.code p), .str (PV.brand p), .int .i64 (PV.d p), .int .i64 (PV.c p), .int .i64 (PV.a p), .own 0 n] 26), (2, .cells [.str (nm k), .str (vl k)] 52)]) ∧ P i')) ((∀ (i : Nat), i < n → true = true) ∧ ∃ (O' : List (Nat × AObj)), RowsEq [(0, .row 52 2 n (atRow nm vl) false), (1, .cells [.str (PV.id p), .str (PV.code p), .str (PV.brand p), .int .i64 (PV.d p), .int .i64 (PV.c p), .int .i64 (PV.a p), .own 0 n] 26)] O' ∧ R (.exit 2) (St.mk [(1, .ptr 1 0), (28, .own 0 n), (29, .int .i64 (↑n : Int)), (30, .int .i64 (↑k : Int))] O' 2 []))) := by kernel_rfl
theorem rows_vr {p : PV} {n : Nat} {f : Nat → List AV} : RowsEq [(0, .row 52 2 n f false), (1, .cells [.str p.id, .str p.code, .str p.brand, .int .i64 p.d, .int .i64 p.c, .int .i64 p.a, .own 0 n] 26)] [(0, .row 52 2 n f false), (1, .cells [.str p.id, .str p.code, .str p.brand, .int .i64 p.d, .int .i64 p.c, .int .i64 p.a, .own 0 n] 26)] := ⟨⟨rfl, rfl, rfl, rfl, rfl, fun _ _ => rfl⟩, rfl, trivial⟩

theorem vi_loop (hP : C.P = Tryd.prog) (p : PV) (n : Nat) (nm vl : Nat → List UInt8) (k : Nat) : LoopOK C 1 61 (loopC Tryd.f9 17) (L_vi p n nm vl k) := by
  rintro st Q ⟨h0, hk, hn, hQ⟩
  have hR := condP_elim hQ
  refine LoopOK.mk (prg hP) [] 0 .nil [1, 4, 28, 29, 30, 48, 49, 50] [1, 28, 29, 30] [2] (S_vi p n nm vl k) (fun j => j ≤ k ∧ freshAt nm j k = true) (fun j => k - j) 0 ⟨by omega, rfl⟩ h0 (fun j hj => ?_) (fun i => ⟨fun _ _ => rfl, trivial⟩)
  obtain ⟨hjk, hok⟩ := hj
  rw [nf_vi_round, Int.toNat_natCast]
  have hbad : ∀ m, j < m → nm k = nm j → freshAt nm m k = false := by
    intro m
    induction m with
    | zero => intro h; omega
    | succ m ih =>
      intro h2 h3
      rw [freshAt]
      by_cases hkm : j = m
      · subst hkm; rw [decide_eq_true h3]; simp
      · rw [ih (by omega) h3, Bool.false_and]
  refine condP_dec (fun h1 => ⟨by omega, ⟨by omega, rfl⟩, condP_dec (fun h2 => ⟨fun _ _ => rfl, _, rowsEq1, hR.2 (hbad k (by omega) h2)⟩) (fun h2 => ⟨by simp only [inR]; omega, j + 1, ⟨rfl, ⟨rfl, rfl, rfl, rfl, rfl, fun _ _ => rfl⟩, rfl, rfl, trivial⟩, ⟨by omega, ?_⟩, by omega⟩)⟩) (fun h1 => ⟨fun _ _ => rfl, _, rows_vr, ?_⟩)
  · rw [freshAt, hok, decide_eq_false h2]; rfl
  · have : j = k := by omega
    subst this
    exact hR.1 hok

theorem vr_loop (hP : C.P = Tryd.prog) (p : PV) (n : Nat) (nm vl : Nat → List UInt8) : LoopOK C 1 61 (loopC Tryd.f9 12) (L_vr p n nm vl) := by
  rintro st Q ⟨h0, hn, hs, hQ⟩
  have hR := condP_elim hQ
  refine LoopOK.mkI (prg hP) [(27, .det S_nameR)] (fun k => [(17, L_vi p n nm vl k)]) 0 (.cons (nameR_ok hP) .nil) (fun k => [(loopC Tryd.f9 17, L_vi p n nm vl k)]) (fun k => by kernel_rfl) (fun k => ⟨vi_loop hP p n nm vl k, trivial⟩) [1, 28, 29, 30] [] [2] (S_vr p n nm vl) (fun k => k ≤ n ∧ atsOK nm vl k = true) (fun k => n - k) 0 ⟨by omega, rfl⟩ h0 (fun k hk => ?_) (fun i => ⟨fun _ _ => rfl, trivial⟩)
  obtain ⟨hkn, hok⟩ := hk
  rw [nf_vr_round]
  have hbad : ∀ m, k ≤ m → k < m → atOK nm vl k = false → atsOK nm vl m = false := by
    intro m
    induction m with
    | zero => intro _ h; omega
    | succ m ih =>
      intro _ h2 h3
      rw [atsOK]
      by_cases hkm : k = m
      · subst hkm; rw [h3, Bool.and_false]
      · rw [ih (by omega) (by omega) h3, Bool.false_and]
  rw [Int.toNat_natCast]
  refine condP_dec (fun h1 => ?_) (fun h1 => ⟨fun _ _ => rfl, _, rowsEq1, ?_⟩)
  · have hlt : k < n := by omega
    have hfail : atOK nm vl k = false → ((∀ (i : Nat), i < n → true = true) ∧ ∃ (O' : List (Nat × AObj)), RowsEq [(0, .row 52 2 n (atRow nm vl) false)] O' ∧ Q .ret (St.mk [(2, .int .i64 94)] O' 1 [])) := fun h => ⟨fun _ _ => rfl, _, rowsEq1, hR.2 (hbad n hkn hlt h)⟩
    have hsk := hs k hlt
    refine ⟨by omega, ⟨hlt, rfl⟩, by omega, condP_not (fun h2 => hfail (by unfold atOK; rw [h2]; rfl)) (fun h2 => ⟨by omega, condP_not (fun h3 => hfail (by unfold atOK; rw [h3, Bool.and_false]; rfl)) (fun h3 => ⟨by omega, ⟨rfl, ⟨rfl, rfl, rfl, rfl, rfl, fun _ _ => rfl⟩, rfl, rfl, trivial⟩, hlt, hn, condP_intro (fun h4 => ⟨by simp only [inR]; omega, k + 1, ⟨rfl, rows_vr⟩, ⟨by omega, ?_⟩, by omega⟩) (fun h4 => hfail (by unfold atOK; rw [h4, Bool.and_false]))⟩)⟩)⟩
    rw [atsOK, hok]
    unfold atOK
    rw [h2, h3, h4]; rfl
  · have : k = n := by omega
    subst this
    exact hR.1 hok

theorem valR_ok (hP : C.P = Tryd.prog) : RSpecOK C 9 R_val := by
  rintro args objs R h
  unfold R_val at h
  split at h
  · rename_i id code brand d c a
    obtain ⟨h1, h2, hR⟩ := h
    unfold valF at hR
    refine RSpecOK.wpL (prg hP) [(25, .det S_validID), (26, .det S_is), (27, .det S_nameR), (28, .det S_qty)] [] 2 (.cons (validIDR_ok hP) (.cons (is_ok hP) (.cons (nameR_ok hP) (.cons (qtyR_ok hP) .nil)))) (hP ▸ Tryd.func9) rfl rfl rfl [] (by kernel_rfl) trivial ?_
    rw [nf_vr0]
    refine ⟨trivial, condP_not (fun q1 => ?_) (fun q1 => ⟨h1, condP_not (fun q2 => ?_) (fun q2 => ⟨by omega, condP_not (fun q3 => ?_) (fun q3 => ⟨trivial, condP_ndec (fun q4 => ?_) (fun q4 => ?_)⟩)⟩)⟩)⟩
    · rw [q1] at hR; exact hR
    · rw [q1, q2] at hR; exact hR
    · rw [q1, q2, q3] at hR; exact hR
    · rw [q1, q2, q3, decide_eq_false q4] at hR; exact hR
    · rw [q1, q2, q3, decide_eq_true q4] at hR; exact hR
  · rename_i id code brand d c a n t m f fr
    obtain ⟨rfl, rfl, rfl, hn, h1, h2, hs, hf, hR⟩ := h
    rw [hf]
    generalize nmOf f = nm at *
    generalize vlOf f = vl at *
    rw [hf] at hR
    unfold valF at hR
    refine RSpecOK.wpL (prg hP) [(25, .det S_validID), (26, .det S_is), (27, .det S_nameR), (28, .det S_qty)] [(12, L_vr ⟨id, code, brand, d, c, a⟩ n nm vl)] 2 (.cons (validIDR_ok hP) (.cons (is_ok hP) (.cons (nameR_ok hP) (.cons (qtyR_ok hP) .nil)))) (hP ▸ Tryd.func9) rfl rfl rfl [(loopC Tryd.f9 12, L_vr ⟨id, code, brand, d, c, a⟩ n nm vl)] (by kernel_rfl) ⟨vr_loop hP _ n nm vl, trivial⟩ ?_
    rw [nf_vr1]
    refine ⟨trivial, condP_not (fun q1 => ⟨fun _ _ => rfl, _, rowsEq1, ?_⟩) (fun q1 => ⟨h1, condP_not (fun q2 => ⟨fun _ _ => rfl, _, rowsEq1, ?_⟩) (fun q2 => ⟨by omega, condP_not (fun q3 => ⟨fun _ _ => rfl, _, rowsEq1, ?_⟩) (fun q3 => ⟨trivial, condP_ndec (fun q4 => ⟨fun _ _ => rfl, _, rowsEq1, ?_⟩) (fun q4 => condP_dec (fun q5 => ⟨fun _ _ => rfl, _, rowsEq1, ?_⟩) (fun q5 => ⟨⟨rfl, ⟨⟨rfl, rfl, rfl, rfl, rfl, fun _ _ => rfl⟩, rfl, trivial⟩⟩, by omega, hs, condP_intro (fun q6 => ⟨fun _ _ => rfl, _, rowsEq1, ?_⟩) (fun q6 => ⟨fun _ _ => rfl, _, rowsEq1, ?_⟩)⟩))⟩)⟩)⟩)⟩
    · rw [q1] at hR; exact hR
    · rw [q1, q2] at hR; exact hR
    · rw [q1, q2, q3] at hR; exact hR
    · rw [q1, q2, q3, decide_eq_false q4] at hR; exact hR
    · rw [q1, q2, q3, decide_eq_true q4, decide_eq_true (show 12 < n by omega)] at hR; exact hR
    · rw [q1, q2, q3, decide_eq_true q4, decide_eq_false (show ¬ 12 < n by omega), q6] at hR; exact hR
    · rw [q1, q2, q3, decide_eq_true q4, decide_eq_false (show ¬ 12 < n by omega), q6] at hR; exact hR
  · exact h.elim

end Go.Eng

