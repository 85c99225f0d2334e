/- Functions of the library: they compute what the plain functions say. -/
import Derived.Test.YtgcboligphndhaaGreatDoorEi
import Derived.Test.YtgcboligphndhaaGreatDoorEh
import Derived.Shelf.SlSortCmp.NoneTotal
import Derived.Test.YtgcboligphndhaaGreatDoorEo
import Derived.Test.YtgcboligphndhaaGreatDoorEn
import Derived.Test.YtgcboligphndhaaGreatDoorEp
namespace Go.Eng
open Go.Proofs Go.RowKit Go.Sort
def valA : AV → Value
  | .str l => .string ⟨l.toArray⟩
  | .int k n => .int k n
  | .bool b => .bool b
  | _ => default
def plainA : AV → Bool
  | .str _ => true
  | .int _ _ => true
  | .bool _ => true
  | _ => false
theorem V_plain {w : World} {M : Nat → Prop} {bs : Nat → Option Hd} {v : Value} {u : AV} (hp : plainA u = true) (h : V w M bs v u) : v = valA u := by
  cases u <;> simp only [plainA, Bool.false_eq_true] at hp
  · cases h; rfl
  · cases h; rfl
  · exact h.str_iff
theorem plain_V {w : World} {M : Nat → Prop} {bs : Nat → Option Hd} {u : AV} (hp : plainA u = true) : V w M bs (valA u) u := by
  cases u <;> simp only [plainA, Bool.false_eq_true] at hp
  · exact .bool
  · exact .int
  · exact .str rfl
theorem plain_one {u : AV} (hp : plainA u = true) : (valA u).oneCell' = true := by
  cases u <;> simp only [plainA, Bool.false_eq_true] at hp <;> rfl
def Ctx.bare (P : Program) (h : P.follows .mixedOrders = true) : Ctx := ⟨P, 0, fun _ => True, h, fun _ _ _ h => h, true⟩
theorem grow_of {w w' : World} (h1 : w'.os = w.os) (h2 : w'.tape = w.tape) (h3 : w'.output = w.output) (h4 : w.heap.size ≤ w'.heap.size) (h5 : ∀ b, b < w.heap.size → w'.heap[b]? = w.heap[b]?) (h6 : w.drawn ≤ w'.drawn) :
    ∃ q os, w' = grow (w.drewN q) os := by
  refine ⟨w'.drawn - w.drawn, w'.heap.extract w.heap.size w'.heap.size, ?_⟩
  obtain ⟨hp, tp, dr, os, out⟩ := w
  obtain ⟨hp', tp', dr', os', out'⟩ := w'
  simp only at h1 h2 h3 h4 h5 h6
  subst h1; subst h2; subst h3
  simp only [grow, World.drewN, World.mk.injEq, and_true, true_and]
  refine ⟨?_, by omega⟩
  apply Array.ext_getElem?
  intro i
  rw [Array.getElem?_append]
  by_cases h : i < hp.size
  · rw [if_pos h, h5 i h]
  · rw [if_neg h, Array.getElem?_extract]
    by_cases h' : i < hp'.size
    · rw [if_pos (by omega)]; congr 1; omega
    · rw [if_neg (by omega), Array.getElem?_eq_none (by omega)]
theorem ADet.grown {P : Program} {hm : P.follows .mixedOrders = true} {f : FuncId} {args : List AV} {u : AV} (h : ADet (Ctx.bare P hm) f args [] u []) (hu : plainA u = true) {w : World} {cargs : List Value} (hlen : cargs.length = args.length)
    (hV : ∀ (j : Nat) v x, cargs[j]? = some v → args[j]? = some x → V w (fun _ => False) nob v x) : Calls P f cargs.toArray w fun e w' => e = .returned (valA u) ∧ ∃ q os, w' = grow (w.drewN q) os := by
  have no : ∀ r, lkL [] r = none := fun r => by cases r <;> rfl
  have nm : ∀ b', ¬ mutB (lkL []) nob b' := by
    rintro b' ⟨r, o, c, ho, _⟩
    rw [no r] at ho; cases ho
  have hw : WRep (Ctx.bare P hm) ⟨w, 0, nob, fun _ => False, fun _ => False⟩ (lkL []) nob w := {
    obj := fun r o ho => by rw [no r] at ho; cases ho
    sep := fun r r' o o' b c c' ho => by rw [no r] at ho; cases ho
    out := fun b hb => absurd hb (nm b)
    frz := fun r t sz n f b c ho => by rw [no r] at ho; cases ho
    high := fun b hb => Nat.zero_le _
    lt := fun r b c hb => by simp [nob] at hb
    outlt := fun b hb => hb.elim
    keep := fun b _ _ => rfl
    old := fun b hb => absurd hb (nm b)
    size := Nat.le_refl _
    pre := fun r x hr => absurd hr (Nat.not_lt_zero r)
    os := rfl
    tape := .refl _ _
    output := rfl
    laid := trivial
    gle := Nat.zero_le _ }
  refine (h.2 ⟨w, 0, nob, fun _ => False, fun _ => False⟩ nob w cargs rfl rfl rfl hw (fun _ _ => rfl) hlen (fun j v u hv hu => (hV j v u hv hu).step_ (fun b _ _ hb => ?_) (fun _ _ _ => rfl) (Nat.le_refl _) nob (fun _ _ h => h))).mono ?_
  · rcases hb with hb | hb
    · exact hb
    · exact nm b hb
  · rintro e w' ⟨v, u', O', bs', rfl, ⟨rfl, rfl⟩, hw', hV', _⟩
    rw [V_plain hu hV']
    exact ⟨rfl, grow_of hw'.os hw'.tape.tape hw'.output hw'.size (fun i hi => hw'.keep i hi (fun h => h)) (hw'.tape.drawn rfl)⟩
section
variable {α : Type} [Inhabited α]
def encV (enc : α → List AV) (x : α) : List Value := (enc x).map valA
theorem arr_get (n : Nat) (f : Nat → α) {i : Nat} (hi : i < n) : (((List.range n).map f).toArray)[i]! = f i := by simp [hi]
theorem ACalls.sortK {C : Ctx} (enc : α → List AV) (k : Nat) (hk : ∀ x, (enc x).length = k) (hp : ∀ x u, u ∈ enc x → plainA u = true) (cf : α → α → Int) {fS g : FuncId} {t : TypeId} (heS : Enters C.P fS)
    (hS : ∀ (blk cap : Nat) (d : Array α) (w : World), CmpLays C.P g #[] (encV enc) k cf blk 0 d.size w → HoldsK (encV enc) k w blk 0 d → blk < w.heap.size → d.size < 4611686018427387904 →
      Calls C.P fS #[.slice (some ⟨blk, 0, none⟩) d.size cap, .func (.func g) #[] #[]] w fun e w' => e = .returned (.tuple #[]) ∧ ∃ d' n os, PermIn 0 d.size d d' ∧ SortedIn (ltOf cf) 0 d.size d' ∧ w' = sortWorldK (encV enc) k w blk 0 n d' os)
    (hN : ∀ (p : Option Addr) (cap : Nat) (fv : Value) (w : World), Calls C.P fS #[.slice p 0 cap, fv] w fun e w' => e = .returned (.tuple #[]) ∧ w' = w)
    (hc : ∀ x y, ADet (Ctx.bare C.P C.mixed) g [.agg (enc x), .agg (enc y)] [] (.int .i64 (cf x y)) [])
    {n : Nat} (f : Nat → α) (hn : n < 4611686018427387904) :
    ACalls C fS [.own 0 n, .func g []] [.row t k n (fun i => enc (f i)) false] fun u O => u = .tuple [] ∧ ∃ f' : Nat → α, ((List.range n).map f').Perm ((List.range n).map f) ∧ (∀ i j, i < j → j < n → ¬ cf (f' j) (f' i) < 0) ∧
      O = [(0, .row t k n (fun i => enc (f' i)) false)] := by
  refine ⟨heS, fun E bs w cargs h1 h2 h3 hW h5 h6 h7 => ?_⟩
  obtain ⟨a, b, rfl⟩ : ∃ a b, cargs = [a, b] := by
    match cargs, h6 with
    | [a, b], _ => exact ⟨a, b, rfl⟩
  have V0 := h7 0 _ _ rfl rfl
  have V1 := h7 1 _ _ rfl rfl
  generalize hu : AV.func g [] = uf at V1
  cases V1 <;> cases hu
  rename_i caps hl hv
  obtain rfl : caps = #[] := Array.eq_empty_of_size_eq_zero hl
  have hO : lkL [AObj.row t k n (fun i => enc (f i)) false] = lk [(0, .row t k n (fun i => enc (f i)) false)] := by
    funext i
    cases i with
    | zero => rfl
    | succ i => rw [lk_cons, if_neg (by show ¬ 0 = i + 1; omega)]; simp [lkL, lk]
  have hbs : ∀ r, 1 + 16 ≤ r → lk [(0, AObj.row t k n (fun i => enc (f i)) false)] r = none ∧ bs r = none := fun r hr => ⟨by rw [lk_cons, if_neg (by show ¬ 0 = r; omega)]; rfl, h5 r (by show 1 ≤ r; omega)⟩
  rw [hO] at hW V0
  generalize huo : AV.own 0 n = uo at V0
  cases V0 <;> cases huo
  case func.refl.ownnil.refl A x1 x2 =>
    have hn0 : n = 0 := by assumption
    clear x1 x2
    subst hn0
    refine (hN A 0 _ w).mono ?_
    rintro e w' ⟨rfl, rfl⟩
    refine ⟨_, .tuple [], [(0, .row t k 0 (fun i => enc (f i)) false)], bs, rfl, ⟨rfl, f, .refl _, fun i j _ hj => absurd hj (Nat.not_lt_zero j), rfl⟩, hW, .tuple rfl (fun j v u hv hu => by simp at hu), hbs⟩
  case func.refl.own.refl bk c x1 x2 x3 =>
    have hb : bs 0 = some (.blk bk c) := by assumption
    clear x1 x2 x3
    have hrow := hW.obj 0 _ rfl
    rcases hrow with ⟨h, _⟩ | ⟨bk', c', vs, hb', hh, hnc', hcm', hsz, hln, hone, hval⟩
    · rw [h] at hb; cases hb
    obtain ⟨rfl, rfl⟩ : bk' = bk ∧ c' = c := by
      rw [hb'] at hb; injection hb with hb; injection hb with e1 e2; exact ⟨e1, e2⟩
    have hblk : bk' < w.heap.size := hW.lt _ _ _ hb'
    have hle : n * k ≤ vs.size := by rw [hsz]; exact Nat.mul_le_mul_right k hnc'
    have hdiv : ∀ q, q < n * k → q / k < n ∧ q % k < k ∧ q / k * k + q % k = q := fun q hq => by
      have k0 : 0 < k := by
        rcases Nat.eq_zero_or_pos k with h | h
        · subst h; simp at hq
        · exact h
      exact ⟨Nat.div_lt_of_lt_mul (by rwa [Nat.mul_comm]), Nat.mod_lt _ k0, Nat.div_add_mod' q k⟩
    have hds : (((List.range n).map f).toArray).size = n := by simp
    have hlen : ∀ x, (encV enc x).length = k := fun x => by simp [encV, hk]
    have hH : HoldsK (encV enc) k w bk' 0 ((List.range n).map f).toArray := by
      intro q hq
      rw [size_flatK, hds] at hq
      obtain ⟨q1, q2, q3⟩ := hdiv q hq
      rw [get_flatK _ _ _ _ (by rw [hds]; exact hq), arr_get n f q1, Nat.zero_add]
      have hlt : q < vs.size := by omega
      refine ⟨?_, ?_⟩
      · rw [cell_of_row w bk' q vs t (0, 0) hh]
        have hg : vs[q / k * k + q % k]? = some vs[q] := by rw [q3]; exact Array.getElem?_eq_getElem hlt
        have hu : (enc (f (q / k)))[q % k]? = some ((enc (f (q / k)))[q % k]'(by rw [hk]; exact q2)) := List.getElem?_eq_getElem _
        have := V_plain (hp _ _ (List.mem_of_getElem? hu)) (hval (q / k) q1 (q % k) _ _ q2 hg hu)
        show vs[q]? = some (((enc (f (q / k))).map valA)[q % k]!)
        rw [Array.getElem?_eq_getElem hlt, this]
        congr 1
        simp [hk, q2]
      · simp [World.frozen?, hh]
    have hC : CmpLays C.P g #[] (encV enc) k cf bk' 0 ((List.range n).map f).toArray.size w := by
      intro m os dk _ x y
      have := ADet.grown (hc x y) rfl (w := sortWorldK (encV enc) k w bk' 0 m dk os) (cargs := [.agg (encV enc x).toArray, .agg (encV enc y).toArray]) rfl (fun j v u hv hu => ?_)
      · simpa [valA] using this
      have ag : ∀ z : α, V (sortWorldK (encV enc) k w bk' 0 m dk os) (fun _ => False) nob (.agg (encV enc z).toArray) (.agg (enc z)) := fun z => by
        refine .agg (by simp [encV]) (fun j v hv => ?_) (fun j v u hv hu => ?_)
        · simp only [List.getElem?_toArray, encV, List.getElem?_map, Option.map_eq_some_iff] at hv
          obtain ⟨u, hu, rfl⟩ := hv
          exact plain_one (hp _ _ (List.mem_of_getElem? hu))
        · simp only [List.getElem?_toArray, encV, List.getElem?_map, hu, Option.map_some, Option.some.injEq] at hv
          subst hv
          exact plain_V (hp _ _ (List.mem_of_getElem? hu))
      match j with
      | 0 => obtain rfl := Option.some.inj hv; obtain rfl := Option.some.inj hu; exact ag x
      | 1 => obtain rfl := Option.some.inj hv; obtain rfl := Option.some.inj hu; exact ag y
      | j + 2 => simp at hv
    have hcall := hS bk' c' ((List.range n).map f).toArray w hC hH hblk (by rw [hds]; exact hn)
    rw [hds] at hcall
    refine hcall.mono ?_
    rintro e w' ⟨rfl, d', m, os, hperm, hsort, rfl⟩
    have hd' : d'.size = n := hperm.1.trans hds
    have hlist : d'.toList = (List.range n).map (fun i => d'[i]!) := by
      apply List.ext_getElem?
      intro i
      rw [List.getElem?_map, Array.getElem?_toList]
      by_cases hi : i < n
      · rw [List.getElem?_range hi, Option.map_some, getElem!_pos d' i (by omega), Array.getElem?_eq_getElem (by omega)]
      · rw [Array.getElem?_eq_none (by omega), List.getElem?_eq_none (by simp; omega)]; rfl
    have hnb : ∀ (o' : AObj), lk [(0, o')] = up (lk [(0, AObj.row t k n (fun i => enc (f i)) false)]) 0 o' := fun o' => by
      funext i
      rw [lk_cons]
      by_cases h : (0 : Nat) = i
      · rw [if_pos h, ← h, up_same]
      · rw [if_neg h, up_other _ _ _ h, lk_cons, if_neg h]
    have hheap : ∀ b, b < w.heap.size → b ≠ bk' → (sortWorldK (encV enc) k w bk' 0 m d' os).heap[b]? = w.heap[b]? := fun b hb hne => by
      show ((putRowK (encV enc) k (Sort.ahead w m) bk' 0 d').heap ++ os)[b]? = _
      rw [Array.getElem?_append_left (by show b < (putRowK _ _ _ _ _ _).heap.size; rw [show (putRowK (encV enc) k (Sort.ahead w m) bk' 0 d').heap.size = w.heap.size from by simp [putRowK]]; exact hb)]
      simp [putRowK, putRow, mapBlock, Array.getElem?_modify, Ne.symm hne]
    have hsize : w.heap.size ≤ (sortWorldK (encV enc) k w bk' 0 m d' os).heap.size := by simp [sortWorldK, grow, putRowK]
    have hnew : (sortWorldK (encV enc) k w bk' 0 m d' os).heap[bk']? = some (.cells (putCells id 0 (flatK (encV enc) k d') vs) t (0, 0)) := by
      show ((putRowK (encV enc) k (Sort.ahead w m) bk' 0 d').heap ++ os)[bk']? = _
      rw [Array.getElem?_append_left (by rw [show (putRowK (encV enc) k (Sort.ahead w m) bk' 0 d').heap.size = w.heap.size from by simp [putRowK]]; exact hblk)]
      simp [putRowK, putRow, mapBlock, Array.getElem?_modify, hh, onCells]
    have hcell : ∀ i, i < n → ∀ j, j < k → ∀ v, (putCells id 0 (flatK (encV enc) k d') vs)[i * k + j]? = some v → ∃ u, (enc d'[i]!)[j]? = some u ∧ v = valA u := fun i hi j hj v hv => by
      have hlt : i * k + j < n * k := by
        have := Nat.mul_le_mul_right k (show i + 1 ≤ n from hi)
        rw [Nat.add_mul, Nat.one_mul] at this; omega
      have hlt2 : i * k + j < vs.size := by omega
      simp only [putCells, Array.getElem?_mapIdx, Array.getElem?_eq_getElem hlt2, Option.map_some, size_flatK, hd', Nat.zero_le, Nat.zero_add, hlt, and_self, if_true, Nat.sub_zero, Option.some.injEq, id] at hv
      rw [get_flatK _ _ _ _ (by rw [hd']; exact hlt)] at hv
      have e1 : (i * k + j) / k = i := (blk_iff k i _ (by omega)).1 ⟨by omega, by omega⟩
      have e2 : (i * k + j) % k = j := by rw [Nat.mod_eq_sub_div_mul, e1]; omega
      rw [e1, e2] at hv
      refine ⟨(enc d'[i]!)[j]'(by rw [hk]; exact hj), List.getElem?_eq_getElem _, ?_⟩
      rw [← hv]
      simp [encV, hk, hj]
    refine ⟨_, .tuple [], [(0, .row t k n (fun i => enc d'[i]!) false)], bs, rfl, ⟨rfl, fun i => d'[i]!, ?_, fun i j hij hj => ?_, rfl⟩, ?_, .tuple rfl (fun j v u hv hu => by simp at hu), fun r hr => ⟨by rw [lk_cons, if_neg (by show ¬ 0 = r; exact fun h => by subst h; simp at hr)]; rfl, (hbs r hr).2⟩⟩
    · have := hperm.2.2
      have e1 : d'.extract 0 n = d' := by rw [← hd']; exact Array.extract_size
      have e2 : ((List.range n).map f).toArray.extract 0 n = ((List.range n).map f).toArray := by
        have := Array.extract_size (xs := ((List.range n).map f).toArray)
        rwa [hds] at this
      rw [e1, e2] at this
      rw [← hlist]; simpa using this
    · have := hsort i j (Nat.zero_le _) hij hj
      simpa [ltOf] using this
    · have hmb : ∀ b, mutB (lk [(0, AObj.row t k n (fun i => enc d'[i]!) false)]) bs b → mutB (lk [(0, AObj.row t k n (fun i => enc (f i)) false)]) bs b := by
        rintro b ⟨r, o, c2, ho, hm, hb2⟩
        rw [lk_cons] at ho
        by_cases h : (0 : Nat) = r
        · subst h; exact ⟨0, _, c2, rfl, rfl, hb2⟩
        · rw [if_neg h] at ho; cases ho
      refine (hW.next (w' := sortWorldK (encV enc) k w bk' 0 m d' os) (fun b => b = bk') (fun i h hi => hi) (fun i b c' hi => .inl hi) (fun b hb2 => by subst hb2; exact ⟨0, _, c', rfl, rfl, hb'⟩) (fun b hb2 hne => hheap b hb2 hne) hsize (fun b hb2 => .inl (hmb b hb2)) (fun hSt i o' ho => ?_)
        (fun i j o1 o2 b c1 c2 hi hj m1 m2 bi bj => ?_) (fun i t' sz' n' f' b c2 ho hb2 => ?_) rfl ⟨rfl, fun _ => Nat.le_add_right _ _⟩ rfl).2
      · rw [lk_cons] at ho
        by_cases h : (0 : Nat) = i
        · subst h
          rw [if_pos rfl] at ho
          injection ho with ho; subst ho
          refine .inr (.inr ⟨bk', c', _, hb', hnew, hnc', hcm', by simp [putCells, hsz], fun i hi => hk _, fun i hi j hj v hv => ?_, fun i hi j v u hj hv hu => ?_⟩)
          · obtain ⟨u, hu, rfl⟩ := hcell i hi j hj v hv
            exact plain_one (hp _ _ (List.mem_of_getElem? hu))
          · obtain ⟨u', hu', rfl⟩ := hcell i hi j hj v hv
            have hu : (enc d'[i]!)[j]? = some u := hu
            rw [hu'] at hu
            injection hu with hu; subst hu
            exact plain_V (hp _ _ (List.mem_of_getElem? hu'))
        · rw [if_neg h] at ho; cases ho
      · rw [lk_cons] at hi hj
        by_cases h : (0 : Nat) = i
        · by_cases h' : (0 : Nat) = j
          · rw [← h, ← h']
          · rw [if_neg h'] at hj; cases hj
        · rw [if_neg h] at hi; cases hi
      · rw [lk_cons] at ho
        by_cases h : (0 : Nat) = i
        · rw [if_pos h] at ho; cases ho
        · rw [if_neg h] at ho; cases ho
end
end Go.Eng
namespace Go.Eng
open Go.Proofs Go.RowKit Go.Sort
variable {C : Ctx}
set_option maxRecDepth 20000
theorem nf_nan (x : Int) (R : AV → List (Nat × AObj) → Prop) : wpFn te [] [] 0 Tryz.f139 [.int .i64 x] [] R = (R (.bool !decide (x = x)) []) := by kernel_rfl
theorem nf_icmp (a b : Int) (R : AV → List (Nat × AObj) → Prop) : wpFn te [(139, .det S_nan)] [] 0 Tryz.f95 [.int .i64 a, .int .i64 b] [] R = (True ∧ True ∧ condP (decide (a < b)) (R (.int .i64 (-1 : Int)) []) (condP (decide (b < a)) (R (.int .i64 1) []) (R (.int .i64 0) []))) := by kernel_rfl
theorem nf_nan64 (x : Int) (R : AV → List (Nat × AObj) → Prop) : wpFn te [] [] 0 Tryz.f197 [.int .i64 x] [] R = (R (.bool !decide (x = x)) []) := by kernel_rfl
theorem nf_icmp64 (a b : Int) (R : AV → List (Nat × AObj) → Prop) : wpFn te [(197, .det S_nan)] [] 0 Tryz.f156 [.int .i64 a, .int .i64 b] [] R = (True ∧ True ∧ condP (decide (a < b)) (R (.int .i64 (-1 : Int)) []) (condP (decide (b < a)) (R (.int .i64 1) []) (R (.int .i64 0) []))) := by kernel_rfl
theorem nf_or (f : Nat → List AV) (n : Nat) (R : AV → List (Nat × AObj) → Prop) : wpFn te [] [(3, L_or (vInt f) n)] 0 Tryz.f93 [.own 0 n] [.row 3 1 n f false] R = (letI z0 := ([(0, .row 3 1 n (intRow (vInt f)) false)] : List (Nat × AObj)); (TEq [(3, .int .i64 0), (6, .own 0 n), (7, .int .i64 (↑n : Int)), (8, .int .i64 0)] [(3, .int .i64 0), (6, .own 0 n), (7, .int .i64 (↑n : Int)), (8, .int .i64 (↑0 : Int))] ∧ RowsEq [(0, .row 3 1 n f false)] z0) ∧ n ≤ 100 ∧ condP (decide (orN (vInt f) n = (0 : Int))) ((∀ (i : Nat), i < n → true = true) ∧ ∃ (O' : List (Nat × AObj)), RowsEq z0 O' ∧ R (.int .i64 0) O') ((∀ (i : Nat), i < n → true = true) ∧ ∃ (O' : List (Nat × AObj)), RowsEq z0 O' ∧ R (.int .i64 (orN (vInt f) n)) O')) := by kernel_rfl
theorem nf_or_round (v : Nat → Int) (n k : Nat) (P : Nat → Prop) (R : Exit → St → Prop) : roundP ⟨te, [], [], 1, 18, 0⟩ (loopB Tryz.f93 3) [3, 6, 7, 8] [3] [2] (S_orl v n) P R (S_orl v n k) = (letI z0 := ([(0, .row 3 1 n (intRow v) false)] : List (Nat × AObj)); condP (decide ((↑k : Int) < (↑n : Int))) (((0 : Int) ≤ (↑k : Int) ∧ (↑k : Int) < (↑n : Int)) ∧ (Int.toNat (↑k : Int) < n ∧ 1 = 1) ∧ condP (!decide (v (Int.toNat (↑k : Int)) = (0 : Int))) ((∀ (i : Nat), i < n → true = true) ∧ ∃ (O' : List (Nat × AObj)), RowsEq z0 O' ∧ R .ret (St.mk [(2, .int .i64 (v (Int.toNat (↑k : Int))))] O' 1 [])) (inR .i64 ((↑k : Int) + (1 : Int)) ∧ ∃ (i' : Nat), (TEq [(3, .int .i64 0), (6, .own 0 n), (7, .int .i64 (↑n : Int)), (8, .int .i64 ((↑k : Int) + (1 : Int)))] [(3, .int .i64 0), (6, .own 0 n), (7, .int .i64 (↑n : Int)), (8, .int .i64 (↑i' : Int))] ∧ RowsEq z0 z0) ∧ P i')) ((∀ (i : Nat), i < n → true = true) ∧ ∃ (O' : List (Nat × AObj)), RowsEq z0 O' ∧ R (.exit 0) (St.mk [(3, .int .i64 0)] O' 1 []))) := by kernel_rfl
theorem compareBytes_eq : ∀ a b : List UInt8, Lib.compareBytes a b = cmpS a b
  | [], [] => rfl
  | [], _ :: _ => rfl
  | _ :: _, [] => rfl
  | a :: x, b :: y => by
    have ih := compareBytes_eq x y
    rw [Lib.compareBytes, ih]
    unfold cmpS
    simp only [Op.bytesLess]
    by_cases h : a < b
    · simp [h]
    · by_cases h' : b < a
      · have : (a == b) = false := by
          rw [beq_eq_false_iff_ne]
          exact fun e => by subst e; exact h h'
        simp [h, h', this]
      · have e : a = b := by
          rcases Nat.lt_trichotomy a.toNat b.toNat with q | q | q
          · exact absurd q h
          · exact UInt8.toNat_inj.1 q
          · exact absurd q h'
        subst e
        simp [h]
theorem scmp_ok (hP : C.P = Tryz.prog) : SpecOK C 94 S_scmp := by
  rintro args objs U Os vc h hvc
  unfold S_scmp at h
  split at h <;> simp only [Option.some.injEq, Prod.mk.injEq, reduceCtorEq] at h
  rename_i a b
  obtain ⟨rfl, rfl, rfl⟩ := h
  refine ACalls.quiet ⟨Tryz.f94, hP ▸ Tryz.func94, rfl, by decide⟩ fun E bs w cargs hW hl hv => ?_
  obtain ⟨x, y, rfl⟩ : ∃ x y, cargs = [x, y] := by
    match cargs, hl with
    | [x, y], _ => exact ⟨x, y, rfl⟩
  have e1 := (hv 0 _ _ rfl rfl).str_iff
  have e2 := (hv 1 _ _ rfl rfl).str_iff
  subst e1; subst e2
  rw [hP]
  refine (Tryz.strings_Compare ⟨a.toArray⟩ ⟨b.toArray⟩ w).mono ?_
  rintro e w' ⟨rfl, rfl⟩
  refine ⟨_, rfl, rfl, ?_⟩
  rw [compareBytes_eq]
  exact .int
theorem nan_ok (hP : C.P = Tryz.prog) : SpecOK C 139 S_nan := by
  rintro args objs U Os vc h hvc
  unfold S_nan at h
  split at h <;> simp only [Option.some.injEq, Prod.mk.injEq, reduceCtorEq] at h
  obtain ⟨rfl, rfl, rfl⟩ := h
  refine SpecOK.wp0 (prg hP) [] 0 .nil (hP ▸ Tryz.func139) rfl rfl rfl ?_
  rw [nf_nan, decide_eq_true rfl]
  exact ⟨rfl, rfl⟩
theorem nan64_ok (hP : C.P = Tryz.prog) : SpecOK C 197 S_nan := by
  rintro args objs U Os vc h hvc
  unfold S_nan at h
  split at h <;> simp only [Option.some.injEq, Prod.mk.injEq, reduceCtorEq] at h
  obtain ⟨rfl, rfl, rfl⟩ := h
  refine SpecOK.wp0 (prg hP) [] 0 .nil (hP ▸ Tryz.func197) rfl rfl rfl ?_
  rw [nf_nan64, decide_eq_true rfl]
  exact ⟨rfl, rfl⟩
theorem icmp_ok (hP : C.P = Tryz.prog) : SpecOK C 95 S_icmp := by
  rintro args objs U Os vc h hvc
  unfold S_icmp at h
  split at h <;> simp only [Option.some.injEq, Prod.mk.injEq, reduceCtorEq] at h
  obtain ⟨rfl, rfl, rfl⟩ := h
  refine SpecOK.wp0 (prg hP) [(139, .det S_nan)] 0 (.cons (nan_ok hP) .nil) (hP ▸ Tryz.func95) rfl rfl rfl ?_
  rw [nf_icmp]
  unfold cmpI
  exact ⟨trivial, trivial, condP_intro (fun h => by rw [h]; exact ⟨rfl, rfl⟩) (fun h => condP_intro (fun k => by rw [h, k]; exact ⟨rfl, rfl⟩) (fun k => by rw [h, k]; exact ⟨rfl, rfl⟩))⟩
theorem icmp64_ok (hP : C.P = Tryz.prog) : SpecOK C 156 S_icmp := by
  rintro args objs U Os vc h hvc
  unfold S_icmp at h
  split at h <;> simp only [Option.some.injEq, Prod.mk.injEq, reduceCtorEq] at h
  obtain ⟨rfl, rfl, rfl⟩ := h
  refine SpecOK.wp0 (prg hP) [(197, .det S_nan)] 0 (.cons (nan64_ok hP) .nil) (hP ▸ Tryz.func156) rfl rfl rfl ?_
  rw [nf_icmp64]
  unfold cmpI
  exact ⟨trivial, trivial, condP_intro (fun h => by rw [h]; exact ⟨rfl, rfl⟩) (fun h => condP_intro (fun k => by rw [h, k]; exact ⟨rfl, rfl⟩) (fun k => by rw [h, k]; exact ⟨rfl, rfl⟩))⟩
theorem orN_stop {v : Nat → Int} {k : Nat} (h : orN v k = 0) (hv : v k ≠ 0) : ∀ n, k < n → orN v n = v k
  | 0, hn => by omega
  | n + 1, hn => by
    rw [orN]
    by_cases e : k = n
    · subst e; rw [h]; rfl
    · rw [orN_stop h hv n (by omega), decide_eq_false hv]; rfl
theorem or_loop (hP : C.P = Tryz.prog) (v : Nat → Int) (n : Nat) : LoopOK C 1 18 (loopC Tryz.f93 3) (L_or v n) := by
  rintro st Q ⟨h0, hn, hQ⟩
  have hR := condP_elim hQ
  refine LoopOK.mk (prg hP) [] 0 .nil [3, 6, 7, 8] [3] [2] (S_orl v n) (fun k => k ≤ n ∧ orN v k = 0) (fun k => n - k) 0 ⟨Nat.zero_le _, rfl⟩ h0 (fun k hk => ?_) (fun i => ⟨fun _ _ => rfl, trivial⟩)
  obtain ⟨hkn, hok⟩ := hk
  rw [nf_or_round, Int.toNat_natCast]
  refine condP_dec (fun h1 => ⟨⟨by omega, by omega⟩, ⟨by omega, rfl⟩, condP_ndec (fun h2 => ⟨fun _ _ => rfl, _, rowsEqR _, ?_⟩) (fun h2 => ⟨by simp only [inR]; omega, k + 1, ⟨rfl, rowsEqR _⟩, ⟨by omega, ?_⟩, by omega⟩)⟩) (fun h1 => ⟨fun _ _ => rfl, _, rowsEqR _, ?_⟩)
  · have e := orN_stop hok h2 n (by omega)
    have := hR.2 (by rw [e, decide_eq_false h2])
    rw [e] at this; exact this
  · rw [orN, hok]; exact h2
  · have : k = n := by omega
    subst this
    exact hR.1 (by rw [hok]; rfl)
theorem or_ok (hP : C.P = Tryz.prog) : SpecOK C 93 S_or := by
  rintro args objs U Os vc h hvc
  unfold S_or at h
  split at h <;> simp only [Option.some.injEq, Prod.mk.injEq, reduceCtorEq] at h
  rename_i n t m f fr
  obtain ⟨rfl, rfl, rfl⟩ := h
  obtain ⟨rfl, rfl, rfl, hn, hf⟩ := hvc
  have hrow : RowsEq [(0, AObj.row 3 1 n (intRow (vInt f)) false)] [(0, .row 3 1 n f false)] := ⟨⟨rfl, rfl, rfl, rfl, rfl, fun i hi => (hf i hi).symm⟩, trivial⟩
  refine SpecOK.wpL (prg hP) [] [(3, L_or (vInt f) n)] 0 .nil (hP ▸ Tryz.func93) rfl rfl rfl [(loopC Tryz.f93 3, L_or (vInt f) n)] (by kernel_rfl) ⟨or_loop hP _ _, trivial⟩ ?_
  rw [nf_or]
  refine ⟨⟨rfl, ⟨rfl, rfl, rfl, rfl, rfl, hf⟩, trivial⟩, hn, condP_dec (fun h => ⟨fun _ _ => rfl, _, hrow, ?_⟩) (fun h => ⟨fun _ _ => rfl, _, hrow, rfl, rfl⟩)⟩
  rw [h]; exact ⟨rfl, rfl⟩
theorem orL_snoc (x : Int) : ∀ l : List Int, orL (l ++ [x]) = bif decide (orL l = 0) then x else orL l
  | [] => by simp only [List.nil_append, orL]; by_cases h : x = 0 <;> simp [h]
  | y :: l => by
    rw [List.cons_append, orL, orL_snoc x l, orL]
    by_cases h : y = 0
    · simp [h]
    · simp [h]
theorem orN_eq (v : Nat → Int) : ∀ n, orN v n = orL ((List.range n).map v)
  | 0 => rfl
  | n + 1 => by rw [List.range_succ, List.map_append, List.map_singleton, orL_snoc, orN, orN_eq v n]
theorem swo_of {α : Type} {c : α → α → Int} (h : PreC c) : SWO (ltOf c) where
  irrefl x := by simp [ltOf, h.self x]
  trans x y z h1 h2 := by
    simp only [ltOf, decide_eq_true_eq] at *
    exact h.lt_trans h1 h2
  ntrans x y z h1 h2 := by
    simp only [ltOf, decide_eq_false_iff_not] at *
    intro q
    have := h.neg x y
    have := h.neg y x
    have := h.neg y z
    have := h.neg z y
    have := h.neg x z
    have := h.neg z x
    have := h.trans z y x (by omega) (by omega)
    omega
end Go.Eng
namespace Go.Eng
open Go.Proofs Go.RowKit Go.Sort
variable {C : Ctx}
set_option maxRecDepth 20000
theorem nf_mcmp1 (a b : List UInt8) (R : AV → List (Nat × AObj) → Prop) : wpFn te [(94, .det S_scmp)] [] 0 Tryz.f155 [.str a, .str b] [] R = (True ∧ R (.int .i64 (cmpS a b)) []) := by kernel_rfl
theorem nf_mcmp (m m' : MG) (R : AV → List (Nat × AObj) → Prop) : wpFn te [(155, .det S_mcmp1), (95, .det S_icmp), (156, .det S_icmp), (93, .det S_or)] [] 0 Tryz.f115 [.agg [.str m.dev, .int .i64 m.seq, .int .i64 m.kind, .str m.v.o, .str m.v.p, .int .i64 m.v.per, .int .i64 m.v.day, .int .i64 m.v.st, .int .i64 m.v.pr, .str m.v.rep, .str m.d.o, .str m.d.p, .int .i64 m.d.per, .str m.d.dev, .int .i64 m.d.num], .agg [.str m'.dev, .int .i64 m'.seq, .int .i64 m'.kind, .str m'.v.o, .str m'.v.p, .int .i64 m'.v.per, .int .i64 m'.v.day, .int .i64 m'.v.st, .int .i64 m'.v.pr, .str m'.v.rep, .str m'.d.o, .str m'.d.p, .int .i64 m'.d.per, .str m'.d.dev, .int .i64 m'.d.num]] [] R = (letI z0 := chunkA (TI.sz (TI.mk (TypeDesc.int IntKind.i64) 1 8 (Value.int IntKind.i64 0) false)) (.int .i64 (cmpS (MG.dev m) (MG.dev m')) :: .int .i64 (cmpI (MG.seq m) (MG.seq m')) :: .int .i64 (cmpI (MG.kind m) (MG.kind m')) :: .int .i64 (cmpS (VT.o (MG.v m)) (VT.o (MG.v m'))) :: .int .i64 (cmpS (VT.p (MG.v m)) (VT.p (MG.v m'))) :: .int .i64 (cmpI (VT.per (MG.v m)) (VT.per (MG.v m'))) :: .int .i64 (cmpI (VT.day (MG.v m)) (VT.day (MG.v m'))) :: .int .i64 (cmpI (VT.st (MG.v m)) (VT.st (MG.v m'))) :: .int .i64 (cmpI (VT.pr (MG.v m)) (VT.pr (MG.v m'))) :: .int .i64 (cmpS (VT.rep (MG.v m)) (VT.rep (MG.v m'))) :: .int .i64 (cmpS (DT.o (MG.d m)) (DT.o (MG.d m'))) :: .int .i64 (cmpS (DT.p (MG.d m)) (DT.p (MG.d m'))) :: .int .i64 (cmpI (DT.per (MG.d m)) (DT.per (MG.d m'))) :: .int .i64 (cmpS (DT.dev (MG.d m)) (DT.dev (MG.d m'))) :: .int .i64 (cmpI (DT.num (MG.d m)) (DT.num (MG.d m'))) :: List.append [] (List.flatten (List.replicate (nat_lit 0) [.int .i64 0]))); True ∧ True ∧ True ∧ True ∧ True ∧ True ∧ True ∧ True ∧ True ∧ True ∧ True ∧ True ∧ True ∧ True ∧ True ∧ (15 ≤ 16777216 ∧ 1 = 1 ∧ 15 ≤ 9223372036854775807) ∧ (∀ (i : Nat), i < 15 → true = true) ∧ (3 = 3 ∧ false = false ∧ 15 = 15 ∧ 15 ≤ 100 ∧ ∀ (i : Nat), i < 15 → [AV.int .i64 (List.getD [cmpS (MG.dev m) (MG.dev m'), cmpI (MG.seq m) (MG.seq m'), cmpI (MG.kind m) (MG.kind m'), cmpS (VT.o (MG.v m)) (VT.o (MG.v m')), cmpS (VT.p (MG.v m)) (VT.p (MG.v m')), cmpI (VT.per (MG.v m)) (VT.per (MG.v m')), cmpI (VT.day (MG.v m)) (VT.day (MG.v m')), cmpI (VT.st (MG.v m)) (VT.st (MG.v m')), cmpI (VT.pr (MG.v m)) (VT.pr (MG.v m')), cmpS (VT.rep (MG.v m)) (VT.rep (MG.v m')), cmpS (DT.o (MG.d m)) (DT.o (MG.d m')), cmpS (DT.p (MG.d m)) (DT.p (MG.d m')), cmpI (DT.per (MG.d m)) (DT.per (MG.d m')), cmpS (DT.dev (MG.d m)) (DT.dev (MG.d m')), cmpI (DT.num (MG.d m)) (DT.num (MG.d m'))] i (0 : Int))] = [.int .i64 (vInt z0 i)]) ∧ (∀ (i : Nat), i < 15 → true = true) ∧ R (.int .i64 (orN (vInt z0) 15)) []) := by kernel_rfl
theorem lt15 {p : Nat → Prop} (h0 : p 0) (h1 : p 1) (h2 : p 2) (h3 : p 3) (h4 : p 4) (h5 : p 5) (h6 : p 6) (h7 : p 7) (h8 : p 8) (h9 : p 9) (h10 : p 10) (h11 : p 11) (h12 : p 12) (h13 : p 13) (h14 : p 14) : ∀ i, i < 15 → p i := fun i hi => by
  match i, hi with
  | 0, _ => exact h0
  | 1, _ => exact h1
  | 2, _ => exact h2
  | 3, _ => exact h3
  | 4, _ => exact h4
  | 5, _ => exact h5
  | 6, _ => exact h6
  | 7, _ => exact h7
  | 8, _ => exact h8
  | 9, _ => exact h9
  | 10, _ => exact h10
  | 11, _ => exact h11
  | 12, _ => exact h12
  | 13, _ => exact h13
  | 14, _ => exact h14
theorem mcmp1_ok (hP : C.P = Tryz.prog) : SpecOK C 155 S_mcmp1 := by
  rintro args objs U Os vc h hvc
  unfold S_mcmp1 at h
  split at h <;> simp only [Option.some.injEq, Prod.mk.injEq, reduceCtorEq] at h
  rename_i a b
  obtain ⟨rfl, rfl, rfl⟩ := h
  refine SpecOK.wp0 (prg hP) [(94, .det S_scmp)] 0 (.cons (scmp_ok hP) .nil) (hP ▸ Tryz.func155) rfl rfl rfl ?_
  rw [nf_mcmp1]
  exact ⟨trivial, rfl, rfl⟩
theorem mcmp_ok (hP : C.P = Tryz.prog) : SpecOK C 115 S_mcmp := by
  rintro args objs U Os vc h hvc
  unfold S_mcmp at h
  split at h <;> simp only [Option.some.injEq, Prod.mk.injEq, reduceCtorEq] at h
  rename_i dev seq kind o p per day st pr rep o' p' per' dev' num dev2 seq2 kind2 o2 p2 per2 day2 st2 pr2 rep2 o3 p3 per3 dev3 num2
  obtain ⟨rfl, rfl, rfl⟩ := h
  have hn := nf_mcmp ⟨dev, seq, kind, ⟨o, p, per, day, st, pr, rep⟩, ⟨o', p', per', dev', num⟩⟩ ⟨dev2, seq2, kind2, ⟨o2, p2, per2, day2, st2, pr2, rep2⟩, ⟨o3, p3, per3, dev3, num2⟩⟩
  dsimp only at hn
  refine SpecOK.wp0 (prg hP) [(155, .det S_mcmp1), (95, .det S_icmp), (156, .det S_icmp), (93, .det S_or)] 0 (.cons (mcmp1_ok hP) (.cons (icmp_ok hP) (.cons (icmp64_ok hP) (.cons (or_ok hP) .nil)))) (hP ▸ Tryz.func115) rfl rfl rfl ?_
  rw [hn, orN_eq]
  exact ⟨trivial, trivial, trivial, trivial, trivial, trivial, trivial, trivial, trivial, trivial, trivial, trivial, trivial, trivial, trivial, ⟨by omega, rfl, by omega⟩, fun _ _ => rfl, ⟨rfl, rfl, rfl, by omega, lt15 rfl rfl rfl rfl rfl rfl rfl rfl rfl rfl rfl rfl rfl rfl rfl⟩, fun _ _ => rfl, rfl, rfl⟩
theorem sortM_ok (hP : C.P = Tryz.prog) : RSpecOK C 114 R_sortM := by
  rintro args objs R h
  unfold R_sortM at h
  split at h
  · rename_i n t m f fr
    obtain ⟨rfl, rfl, rfl, hn, hf, hR⟩ := h
    generalize mgOf f = g at *
    subst hf
    have hS := ACalls.sortK (C := C) mgC 15 (fun _ => rfl) (fun x u hu => by
        simp only [mgC, List.mem_cons, List.not_mem_nil, or_false] at hu
        rcases hu with rfl | rfl | rfl | rfl | rfl | rfl | rfl | rfl | rfl | rfl | rfl | rfl | rfl | rfl | rfl <;> rfl) ordM (t := 40) (fS := 114) (g := 115)
      ⟨_, hP ▸ Tryz.func114, rfl, by decide⟩
      (fun blk cap d w h1 h2 h3 h4 => by
        rw [hP] at h1 ⊢
        exact AnyQ.slices_SortFunc Tryz.sort114 15 Tryz.isAgg40 Tryz.sizeOf40 _ (fun _ => rfl) (fun x v hv => by
          simp only [encV, mgC, List.map_cons, List.map_nil, List.mem_cons, List.not_mem_nil, or_false] at hv
          rcases hv with rfl | rfl | rfl | rfl | rfl | rfl | rfl | rfl | rfl | rfl | rfl | rfl | rfl | rfl | rfl <;> rfl) ordM (swo_of ordM_preC) 115 #[] blk 0 cap d w (enters_of Tryz.func115 (by kernel_rfl) rfl) h1 h2 h3 h4)
      (fun p cap fv w => by
        rw [hP]
        exact AnyF.slices_SortFunc_none Tryz.sort114 p cap fv w)
      (fun x y => mcmp_ok (C := Ctx.bare C.P C.mixed) hP _ _ _ _ _ rfl trivial) g (n := n) (by omega)
    refine hS.mono ?_
    rintro u O ⟨rfl, f', hp, hs, rfl⟩
    exact hR f' hp hs
  · exact h.elim
end Go.Eng
namespace Go.Eng
open Go.Proofs Go.RowKit
set_option maxRecDepth 20000
theorem nf_trimLeftA (s : List UInt8) (cells : List AV) (R : AV → List (Nat × AObj) → Prop) : wpFn te [] [(1, L_trimLeftA s cells 262)] 0 Tryz.f248 [.str s, .ptr 0 0] [.cells cells 262] R = (letI z0 := ([(0, .cells (AV.rnL (ren 1 []) cells) 262)] : List (Nat × AObj)); some (St.mk [(0, .str s), (1, .ptr 0 0)] z0 1 []) = some (St.mk [(0, .str s), (1, .ptr 0 0)] [(0, .cells cells 262)] 1 []) ∧ SetOK cells ∧ R (.str (List.dropWhile (inSet cells) s)) z0) := by kernel_rfl
theorem nf_trimLeftA_nil (cells : List AV) (P : List UInt8 → Prop) (R : Exit → St → Prop) : roundP ⟨te, [(262, .det S_setContains)], [], 1, 16, 0⟩ (loopB Tryz.f248 1) [0, 1] [0] [0] (S_tlState cells 262) P R (S_tlState cells 262 []) = (R (.exit 0) (St.mk [(0, .str [])] [(0, .cells (AV.rnL (ren 1 []) cells) 262)] 1 [])) := by kernel_rfl
theorem nf_trimLeftA_cons (x : UInt8) (s : List UInt8) (cells : List AV) (P : List UInt8 → Prop) (R : Exit → St → Prop) : roundP ⟨te, [(262, .det S_setContains)], [], 1, 16, 0⟩ (loopB Tryz.f248 1) [0, 1] [0] [0] (S_tlState cells 262) P R (S_tlState cells 262 (x :: s)) = (letI z3 := AV.rnL (idxN [0]) cells; letI z2 := (↑(List.length (x :: s)) : Int); letI z1 := ([(0, .cells (AV.rnL (ren 1 []) (AV.rnL (sig [0] 1) z3)) 262)] : List (Nat × AObj)); letI z0 := (↑(UInt8.toNat (List.getD (x :: s) (Int.toNat (0 : Int)) (0 : UInt8))) : Int); condP (decide ((0 : Int) < z2)) (((0 : Int) ≤ (0 : Int) ∧ (0 : Int) < z2) ∧ (SetOK z3 ∧ (0 : Int) ≤ z0 ∧ z0 < (256 : Int)) ∧ condP (!inSet z3 (UInt8.ofNat (Int.toNat z0))) (R (.exit 0) (St.mk [(0, .str (x :: s))] z1 1 [])) (((0 : Int) ≤ (1 : Int) ∧ (1 : Int) ≤ z2) ∧ ∃ (i' : List UInt8), some (St.mk [(0, .str (List.drop (Int.toNat (1 : Int)) (x :: s))), (1, .ptr 0 0)] z1 1 []) = some (St.mk [(0, .str i'), (1, .ptr 0 0)] [(0, .cells cells 262)] 1 []) ∧ P i')) (R (.exit 0) (St.mk [(0, .str (x :: s))] [(0, .cells (AV.rnL (ren 1 []) cells) 262)] 1 []))) := by kernel_rfl
theorem nf_trimRightA (s : List UInt8) (cells : List AV) (R : AV → List (Nat × AObj) → Prop) : wpFn te [] [(1, L_trimRightA s cells 262)] 0 Tryz.f249 [.str s, .ptr 0 0] [.cells cells 262] R = (letI z0 := ([(0, .cells (AV.rnL (ren 1 []) cells) 262)] : List (Nat × AObj)); some (St.mk [(0, .str s), (1, .ptr 0 0)] z0 1 []) = some (St.mk [(0, .str s), (1, .ptr 0 0)] [(0, .cells cells 262)] 1 []) ∧ SetOK cells ∧ List.length s ≤ 9223372036854775807 ∧ R (.str (dropR (inSet cells) s)) z0) := by kernel_rfl
theorem nf_trimRightA_round (s : List UInt8) (cells : List AV) (P : List UInt8 → Prop) (R : Exit → St → Prop) : roundP ⟨te, [(262, .det S_setContains)], [], 1, 22, 0⟩ (loopB Tryz.f249 1) [0, 1] [0] [0] (S_tlState cells 262) P R (S_tlState cells 262 s) = (letI z3 := AV.rnL (idxN [0]) cells; letI z2 := ([(0, .cells (AV.rnL (ren 1 []) (AV.rnL (sig [0] 1) z3)) 262)] : List (Nat × AObj)); letI z0 := (↑(List.length s) : Int); letI z1 := (↑(UInt8.toNat (List.getD s (Int.toNat (z0 - (1 : Int))) (0 : UInt8))) : Int); condP (decide ((0 : Int) < z0)) (inR .i64 (z0 - (1 : Int)) ∧ ((0 : Int) ≤ z0 - (1 : Int) ∧ z0 - (1 : Int) < z0) ∧ (SetOK z3 ∧ (0 : Int) ≤ z1 ∧ z1 < (256 : Int)) ∧ condP (!inSet z3 (UInt8.ofNat (Int.toNat z1))) (R (.exit 0) (St.mk [(0, .str s)] z2 1 [])) (inR .i64 (z0 - (1 : Int)) ∧ ((0 : Int) ≤ z0 - (1 : Int) ∧ z0 - (1 : Int) ≤ z0) ∧ ∃ (i' : List UInt8), some (St.mk [(0, .str (List.take (Int.toNat (z0 - (1 : Int))) s)), (1, .ptr 0 0)] z2 1 []) = some (St.mk [(0, .str i'), (1, .ptr 0 0)] [(0, .cells cells 262)] 1 []) ∧ P i')) (R (.exit 0) (St.mk [(0, .str s)] [(0, .cells (AV.rnL (ren 1 []) cells) 262)] 1 []))) := by kernel_rfl
theorem nf_trim (s cs : List UInt8) (R : AV → List (Nat × AObj) → Prop) : wpFn te [(248, .det S_trimLeftA), (249, .det S_trimRightA)] [(1005, L_trimSet s cs)] 0 Tryz.f228 [.str s, .str cs] [] R = (letI z3 := St.mk [(0, .str s), (1, .str cs)] [] 0 []; letI z2 := (↑(List.length cs) : Int); letI z1 := AV.rnL (idxN [0]) (setAV cs); letI z4 := AV.rnL (idxN [0]) (AV.rnL (sig [0] 1) z1); letI z0 := (some z3 = some z3 ∧ List.length cs < 4294967281 ∧ (∀ (b : UInt8), b ∈ cs → UInt8.toNat b < 128) ∧ (SetOK z1 ∧ List.length s ≤ 9223372036854775807) ∧ SetOK z4 ∧ R (.str (List.dropWhile (inSet z4) (dropR (inSet z1) s))) []); condP (decide (s = [])) (R (.str s) []) (condP (decide (cs = [])) (R (.str s) []) (condP (decide (z2 = (1 : Int))) (((0 : Int) ≤ (0 : Int) ∧ (0 : Int) < z2) ∧ condP (decide ((↑(UInt8.toNat (List.getD cs (Int.toNat (0 : Int)) (0 : UInt8))) : Int) < (128 : Int))) (((0 : Int) ≤ (0 : Int) ∧ (0 : Int) < z2) ∧ False) z0) z0))) := by kernel_rfl
variable {C : Ctx} [C.Loose]
theorem mem2 {α : Type} {l : List α} (h : l.length = 2) : ∃ a b, l = [a, b] := by
  match l, h with
  | [a, b], _ => exact ⟨a, b, rfl⟩
theorem mem1 {α : Type} {l : List α} (h : l.length = 1) : ∃ a, l = [a] := by
  match l, h with
  | [a], _ => exact ⟨a, rfl⟩
theorem setContains_ok (hP : C.P = Tryz.prog) : SpecOK C 262 S_setContains := by
  have _ : C.Loose := inferInstance
  rintro args objs U Os vc h hvc
  unfold S_setContains at h
  split at h <;> simp only [Option.some.injEq, Prod.mk.injEq, reduceCtorEq] at h
  rename_i x cells t
  obtain ⟨rfl, rfl, rfl⟩ := h
  obtain ⟨hc, h0, h1⟩ := hvc
  obtain ⟨n, rfl⟩ : ∃ n : UInt8, x = n.toNat := ⟨UInt8.ofNat x.toNat, by simp; omega⟩
  refine ACalls.quiet ⟨Tryz.f262, hP ▸ Tryz.func262, rfl, by decide⟩ fun E bs w cargs hW hl hv => ?_
  obtain ⟨a, b, rfl⟩ := mem2 hl
  have e2 := (hv 1 _ _ rfl rfl).int_iff
  subst e2
  obtain ⟨b, y, rfl, hcc, hy⟩ := hW.cell (r := 0) rfl (hv 0 _ _ rfl rfl) (hc.at_ n)
  cases hy
  rw [hP]
  refine (Tryz.asciiSet_contains b n _ w hcc).mono ?_
  rintro e w' ⟨rfl, rfl⟩
  refine ⟨_, rfl, rfl, ?_⟩
  have : UInt8.ofNat (n.toNat : Int).toNat = n := by simp
  rw [this]
  exact .bool
theorem trimLeftA_loop (hP : C.P = Tryz.prog) (s : List UInt8) (cells : List AV) : LoopOK C 1 16 (loopC Tryz.f248 1) (L_trimLeftA s cells 262) := by
  rintro st Q ⟨h0, hc, hQ⟩
  refine LoopOK.mk (prg hP) [(262, .det S_setContains)] 0 (.cons (setContains_ok hP) .nil) [0, 1] [0] [0] (S_tlState cells 262) (fun s' => s'.dropWhile (inSet cells) = s.dropWhile (inSet cells)) List.length s rfl h0 fun s' hs' => ?_
  have hrn := hc.rn
  cases s' with
  | nil =>
    rw [nf_trimLeftA_nil]
    simp only [hrn]
    rw [← hs'] at hQ
    exact hQ
  | cons x r =>
    rw [nf_trimLeftA_cons]
    simp only [hrn]
    have ex : UInt8.ofNat (Int.toNat (↑(UInt8.toNat (List.getD (x :: r) (Int.toNat 0) 0)))) = x := by simp
    have hx : (List.getD (x :: r) (Int.toNat 0) 0) = x := rfl
    have hlt : x.toNat < 256 := x.toNat_lt
    have hlen : (((x :: r).length : Nat) : Int) = (r.length : Int) + 1 := by simp
    rw [hx] at ex
    simp only [hx, ex, hlen]
    refine condP_intro (fun _ => ⟨by omega, ⟨hc, by omega, by omega⟩, condP_intro (fun h => ?_) (fun h => ?_)⟩) (fun h => ?_)
    · have h : inSet cells x = false := by simpa using h
      rw [← hs', List.dropWhile_cons, h] at hQ
      exact hQ
    · have h : inSet cells x = true := by simpa using h
      refine ⟨by omega, r, rfl, ?_, by simp⟩
      rw [← hs', List.dropWhile_cons, h]; rfl
    · have := of_decide_eq_false h; omega
theorem trimLeftA_ok (hP : C.P = Tryz.prog) : SpecOK C 248 S_trimLeftA := by
  rintro args objs U Os vc h hvc
  unfold S_trimLeftA at h
  split at h <;> simp only [Option.some.injEq, Prod.mk.injEq, reduceCtorEq] at h
  rename_i s cells
  obtain ⟨rfl, rfl, rfl⟩ := h
  refine SpecOK.wpL (prg hP) [] [(1, L_trimLeftA s cells 262)] 0 .nil (hP ▸ Tryz.func248) rfl rfl rfl [(loopC Tryz.f248 1, L_trimLeftA s cells 262)] (by kernel_rfl) ⟨trimLeftA_loop hP s cells, trivial⟩ ?_
  rw [nf_trimLeftA]
  simp only [hvc.rn]
  exact ⟨trivial, hvc, by simp⟩
theorem trimRightA_loop (hP : C.P = Tryz.prog) (s : List UInt8) (cells : List AV) : LoopOK C 1 22 (loopC Tryz.f249 1) (L_trimRightA s cells 262) := by
  rintro st Q ⟨h0, hc, hm, hQ⟩
  refine LoopOK.mk (prg hP) [(262, .det S_setContains)] 0 (.cons (setContains_ok hP) .nil) [0, 1] [0] [0] (S_tlState cells 262) (fun s' => dropR (inSet cells) s' = dropR (inSet cells) s ∧ s'.length ≤ maxLen) List.length s ⟨rfl, hm⟩ h0 fun s' hs' => ?_
  have hrn := hc.rn
  obtain ⟨hs', hm'⟩ := hs'
  have hm2 : s'.length ≤ 9223372036854775807 := hm'
  rw [nf_trimRightA_round]
  simp only [hrn]
  rcases snoc_cases s' with rfl | ⟨r, x, rfl⟩
  · refine condP_intro (fun h => ?_) (fun _ => ?_)
    · have := of_decide_eq_true h; simp at this
    · rw [← hs'] at hQ; exact hQ
  · have hlen : (((r ++ [x]).length : Nat) : Int) = (r.length : Int) + 1 := by simp
    have e1 : ((r.length : Int) + 1 - 1).toNat = r.length := by omega
    have hx : (r ++ [x]).getD r.length 0 = x := by simp
    have ht : (r ++ [x]).take r.length = r := by simp
    have ex : UInt8.ofNat ((x.toNat : Int)).toNat = x := by simp
    have hlt : x.toNat < 256 := x.toNat_lt
    have hlr : (r ++ [x]).length = r.length + 1 := by simp
    simp only [hlen, e1, hx, ht, ex, inR]
    refine condP_intro (fun _ => ⟨by omega, by omega, ⟨hc, by omega, by omega⟩, condP_intro (fun h => ?_) (fun h => ?_)⟩) (fun h => ?_)
    · have h : inSet cells x = false := by simpa using h
      rw [← hs', dropR_snoc, h] at hQ
      exact hQ
    · have h : inSet cells x = true := by simpa using h
      refine ⟨by omega, by omega, r, rfl, ⟨?_, ?_⟩, by omega⟩
      · rw [← hs', dropR_snoc, h]; rfl
      · show r.length ≤ 9223372036854775807
        omega
    · have := of_decide_eq_false h; omega
theorem trimRightA_ok (hP : C.P = Tryz.prog) : SpecOK C 249 S_trimRightA := by
  rintro args objs U Os vc h hvc
  unfold S_trimRightA at h
  split at h <;> simp only [Option.some.injEq, Prod.mk.injEq, reduceCtorEq] at h
  rename_i s cells
  obtain ⟨rfl, rfl, rfl⟩ := h
  refine SpecOK.wpL (prg hP) [] [(1, L_trimRightA s cells 262)] 0 .nil (hP ▸ Tryz.func249) rfl rfl rfl [(loopC Tryz.f249 1, L_trimRightA s cells 262)] (by kernel_rfl) ⟨trimRightA_loop hP s cells, trivial⟩ ?_
  rw [nf_trimRightA]
  simp only [hvc.1.rn]
  exact ⟨trivial, hvc.1, hvc.2, by simp⟩
theorem setCells_V {w : World} {M : Nat → Prop} {bs : Nat → Option Hd} (l : List UInt8) : CellsV w M bs (Lib.setCells l) (setAV l) := by
  have hs : (Lib.setCells l).size = 256 := Lib.setCells_size l
  have hl : (setAV l).length = 256 := (setAV_ok l).1
  have at_ : ∀ j, j < 256 → (Lib.setCells l)[j]? = some (.bool (l.contains (UInt8.ofNat j))) := by
    intro j hj
    have := Lib.setCells_at l (UInt8.ofNat j)
    have e : (UInt8.ofNat j).toNat = j := by simp; omega
    rwa [e] at this
  refine ⟨by rw [hs, hl], fun j v hv => ?_, fun j v u hv hu => ?_⟩
  · have hj : j < 256 := by rw [← hs]; exact (Array.getElem?_eq_some_iff.1 hv).1
    rw [at_ j hj] at hv
    cases hv; rfl
  · have hj : j < 256 := by rw [← hs]; exact (Array.getElem?_eq_some_iff.1 hv).1
    rw [at_ j hj] at hv
    cases hv
    have : (setAV l)[j]? = some (.bool (l.contains (UInt8.ofNat j))) := by unfold setAV; simp [hj]
    rw [this] at hu
    cases hu
    exact .bool
theorem makeSet_ok (hP : C.P = Tryz.prog) : SpecOK C 247 S_makeSet := by
  rintro args objs U Os vc h hvc
  unfold S_makeSet at h
  split at h <;> simp only [Option.some.injEq, Prod.mk.injEq, reduceCtorEq] at h
  rename_i l
  obtain ⟨rfl, rfl, rfl⟩ := h
  obtain ⟨hl, hascii⟩ := hvc
  refine ACalls.below ⟨Tryz.f247, hP ▸ Tryz.func247, rfl, by decide⟩ fun w M cargs _ _ hM hlen hv => ?_
  obtain ⟨a, rfl⟩ := mem1 hlen
  have e1 := (hv 0 _ _ rfl rfl).str_iff
  subst e1
  rw [hP]
  refine (Tryz.strings_makeASCIISet (fun w => Tryz.zeroValue262 w) ⟨l.toArray⟩ w (by simpa [ByteArray.size] using hl) (fun j b hb => hascii b (by simpa using List.mem_of_getElem? hb))).mono ?_
  rintro e w' ⟨rfl, rfl⟩
  have hc := setCells_V (w := w.alloc (.cells (Lib.setCells l) 262)) (M := M) (bs := nob) l
  refine ⟨_, rfl, (Below.refl _ _).alloc (Nat.le_refl _) _, .tuple rfl fun j v u hv hu => ?_⟩
  match j with
  | 0 => simp at hv hu; subst hv; subst hu; exact .agg hc.1 hc.2.1 hc.2.2
  | 1 => simp at hv hu; subst hv; subst hu; exact .bool
  | j + 2 => simp at hv
def teSet : TE := [(262, { desc := .array 256 4, sz := 256, bytes := 256, zero := .agg (Array.replicate 256 (.bool false)) })]
@[irreducible] def zeroSet : List AV := List.replicate 256 (.bool false)
theorem avcs_bool (n : Nat) : avcs (List.replicate n (.bool false)) = some (List.replicate n (.bool false)) := by
  induction n with
  | zero => rfl
  | succ n ih => simp [List.replicate_succ, avcs, avc, ih]
theorem teSet_ok : TE.ok Tryz.prog teSet := by
  refine TE.ok_cons Tryz.underlying262 ⟨Tryz.t262, Tryz.type262, rfl, rfl, by kernel_rfl⟩ (fun h => by cases h) TE.ok_nil
theorem zeroSet_of : avcs (Value.agg (Array.replicate 256 (.bool false))).cells.toList = some zeroSet := by
  have e : (Value.agg (Array.replicate 256 (.bool false))).cells.toList = List.replicate 256 (Value.bool false) := Array.toList_replicate
  rw [e]
  unfold zeroSet
  exact avcs_bool 256
theorem zeroSet_len (cs : List UInt8) : zeroSet.length = (setAV cs).length := by
  rw [(setAV_ok cs).1]
  unfold zeroSet
  rw [List.length_replicate]
theorem trimSet_ok (hP : C.P = Tryz.prog) (s cs : List UInt8) : LoopOK C 0 43 (regC Tryz.f228 5) (L_trimSet s cs) := by
  rintro st Q ⟨h0, hl, hascii, hQ⟩
  refine AWP.canonIs [0, 1] h0 ?_ trivial
  have hte := (prg hP).ok
  have hts : TE.ok C.P teSet := hP ▸ teSet_ok
  have hrn := (setAV_ok cs).rn
  refine AWP.canQ (te := te) (Fe := [0, 5, 6]) (Fr := []) ?_
  show AWP C 0 43 (.region 5 (List.toArray _) false) _ _
  refine AWP.region ?_
  refine AOps.pure hte (prg hP).one rfl rfl rfl trivial ?_
  refine AOps.callD (u2 := .nil) (cobjs := []) (U := .tuple [.agg (setAV cs), .bool true]) (Os := []) (T2 := [(31, .tuple [.agg (setAV cs), .bool true]), (30, .str cs), (0, .str s), (1, .str cs)]) [] rfl rfl rfl rfl rfl rfl trivial (makeSet_ok hP [.str cs] [] _ _ _ rfl ⟨hl, hascii⟩) rfl ?_ rfl rfl ?_
  · show (31, AV.tuple [.agg (AV.rnL _ (setAV cs)), .bool true]) :: _ = _
    rw [hrn]; rfl
  refine AOps.pure hte (prg hP).one rfl rfl rfl trivial ?_
  refine AOps.pure hte (prg hP).one rfl rfl rfl trivial ?_
  refine AOps.pure hte (prg hP).one rfl rfl rfl trivial ?_
  refine AOps.step (l := [(_, .cells zeroSet 262)]) rfl (OpStep.allocW hts (t := 262) rfl rfl rfl zeroSet_of) rfl rfl rfl rfl ?_
  refine AOps.step rfl (OpStep.storeW hts (t := 262) (new := setAV cs) rfl rfl rfl rfl rfl rfl (zeroSet_len cs) (setAV_ok cs).1) rfl rfl rfl rfl ?_
  refine AOps.pure hte (prg hP).one rfl rfl rfl trivial ?_
  refine AOps.nil ?_
  refine canQ_of (s' := ⟨[(0, .str s), (5, .ptr 0 0), (6, .bool true)], [(0, .cells (AV.rnL (ren 0 [(16, 0)]) (setAV cs)) 262)], 1, []⟩) (by simp) ?_ ?_
  · rfl
  · rw [hrn]; exact hQ
theorem trim_ok (hP : C.P = Tryz.prog) : SpecOK C 228 S_trim := by
  rintro args objs U Os vc h hvc
  unfold S_trim at h
  split at h <;> simp only [Option.some.injEq, Prod.mk.injEq, reduceCtorEq] at h
  rename_i s cs
  obtain ⟨rfl, rfl, rfl⟩ := h
  obtain ⟨hs, h2, hl, hascii⟩ := hvc
  refine SpecOK.wpL (prg hP) [(248, .det S_trimLeftA), (249, .det S_trimRightA)] [(1005, L_trimSet s cs)] 0 (.cons (trimLeftA_ok hP) (.cons (trimRightA_ok hP) .nil)) (hP ▸ Tryz.func228) rfl rfl rfl
    [(regC Tryz.f228 5, L_trimSet s cs)] (by kernel_rfl) ⟨trimSet_ok hP s cs, trivial⟩ ?_
  rw [nf_trim]
  have hrn := (setAV_ok cs).rn
  have hc1 : ∀ h : (cs.length : Int) = 1, False := by intro h; omega
  have hin : inSet (setAV cs) = (cs.contains ·) := funext (inSet_setAV cs)
  simp only [hrn, hin]
  refine condP_intro (fun h => ?_) (fun _ => condP_intro (fun h => ?_) (fun _ => condP_intro (fun h => ?_) (fun _ => ?_)))
  · have h := of_decide_eq_true h
    subst h
    simp [trimF, dropR]
  · have h := of_decide_eq_true h
    subst h
    simp at h2
  · exact (hc1 (of_decide_eq_true h)).elim
  · exact ⟨trivial, hl, hascii, ⟨setAV_ok cs, hs⟩, setAV_ok cs, rfl, trivial⟩
end Go.Eng
