/- Lemmas that the tied card of ScannerValid is proved by. -/
import Derived.Test.YtokpcnppihgdlaaGreatDoorGc
/- The engine, part 12: the operations that make or change memory, and that the function for them is right. -/
namespace Go.Eng

/-- What append gives, by what is appended to. -/
def appA (O : Nat → Option AObj) (fresh : Nat) (e : TypeId) (tie : TI) (m : Nat) (g : Nat → List AV) (vc : Prop) (s : AV) : Option (AV × List (Nat × AObj) × Prop) :=
  match s with
  | .own r n => match O r with
    | some (.row e' sz n0 f false) => some (.own fresh (n + m), [(fresh, .row e tie.sz (n + m) (apF n f g) false), (r, .dead)],
        vc ∧ n ≤ n0 ∧ sz = tie.sz ∧ e' = e ∧ tie.zero.cells.size = tie.sz ∧ n + m ≤ maxLen ∧ (n + m) * tie.bytes ≤ 140737488355328)
    | _ => none
  | .nil => some (.own fresh m, [(fresh, .row e tie.sz m g false)], vc ∧ tie.zero.cells.size = tie.sz ∧ m ≤ maxLen ∧ m * tie.bytes ≤ 140737488355328)
  | .empty => some (.own fresh m, [(fresh, .row e tie.sz m g false)], vc ∧ tie.zero.cells.size = tie.sz ∧ m ≤ maxLen ∧ m * tie.bytes ≤ 140737488355328)
  | _ => none

def evalEff (te : TE) (T : Nat → Option AV) (O : Nat → Option AObj) (fresh : Nat) : Op → Option (AV × List (Nat × AObj) × Prop)
  | .alloc t => match zeroA te t with
    | some z => some (.ptr fresh 0, [(fresh, .cells z t)], True)
    | none => none
  | .box t x => match evO T x with
    | some u => match cellsA u with
      | some cs => some (.ptr fresh 0, [(fresh, .cells cs t)], True)
      | none => none
    | none => none
  | .buildSlice t len parts => match lk te t with
    | some ti => match ti.desc with
      | .slice e => match lk te e, zeroA te e with
        | some tie, some z => match fillA T (fun i => some (i * tie.sz, tie.sz)) (List.replicate len z).flatten parts.toList with
          | some cs => some (.own fresh len, [(fresh, .row e tie.sz len (chunkA tie.sz cs) false)], len * tie.sz ≤ 16777216 ∧ z.length = tie.sz ∧ len ≤ maxLen)
          | none => none
        | _, _ => none
      | _ => none
    | none => none
  | .makeMap _ none => some (.map fresh, [(fresh, .amap [])], True)
  | .range t x => match evO T x, lk te t with
    | some (.str s), some ti => match ti.desc with
      | .string => some (.ptr fresh 0, [(fresh, .siter s 0)], True)
      | _ => none
    | some (.map m), some ti => match ti.desc with
      | .map _ _ => match O m with
        | some (.amap es) => some (.ptr fresh 0, [(fresh, .miter m es.length (t :: es.length :: List.range es.length))], True)
        | _ => none
      | _ => none
    | _, _ => none
  | .store t x y => match evO T x, evO T y, lk te t with
    | some p, some u, some ti => match cellsA u with
      | some new => match p with
        | .ptr r off => match O r with
          | some (.cells cs tt) => match spliceA cs off new with
            | some cs' => some (.any, [(r, .cells cs' tt)], new.length = ti.sz)
            | none => none
          | _ => none
        | .eptr r sz i off => match O r with
          | some (.row tt sz' n f false) => match spliceA (f i) off new with
            | some cs' => some (.any, [(r, .row tt sz' n (fun k => if k = i then cs' else f k) false)], new.length = ti.sz ∧ i < n ∧ sz = sz')
            | none => none
          | _ => none
        | _ => none
      | none => none
    | _, _, _ => none
  | .call { callee := .builtin .append, args, argTypes } => match args.toList, argTypes.toList with
    | [x, y], [t, t'] => match Nat.beq t t', evO T x, evO T y, lk te t with
      | true, some s, some u, some ti => match ti.desc with
        | .slice e => match lk te e with
          | some tie => match srcA O tie.sz u with
            | some (m, g, vc) => appA O fresh e tie m g vc s
            | none => none
          | none => none
        | _ => none
      | _, _, _, _ => none
    | _, _ => none
  | _ => none

theorem run_buildSlice {P : Program} {w : World} {t e : TypeId} {len sz : Nat} {z : Value} {parts : Array (Nat × Value)} {vs : Array Value} (hu : (underlying t).run P w = .ok (.slice e) w) (hsz : (sizeOf e).run P w = .ok sz w) (hz : (zeroValue e).run P w = .ok z w)
    (hlim : len * sz ≤ 16777216) (hzs : z.cells.size = sz) (hf : Instr.fill (fun i => some (i * sz, sz)) ((Array.range (len * sz)).map (z.cells[· % z.cells.size]!)) parts.toList = some vs) (hvs : vs.size = len * sz) :
    (Instr.buildSlice t len parts).run P w = .ok (.slice (some ⟨w.heap.size, 0, none⟩) len len) (w.alloc (.cells vs e)) := by
  have hn : ¬ (len * sz > 2 ^ 24) := by omega
  unfold Instr.buildSlice
  simp only [Sem.run_bind, hu, hsz, Result.andThen_ok, if_neg hn, Sem.run_pure]
  by_cases h0 : len * sz = 0
  · have e1 : ∀ f : Nat → Value, (Array.range (len * sz)).map f = #[] := fun f => Array.eq_empty_of_size_eq_zero (by simp [h0])
    rw [e1] at hf
    simp only [if_pos h0, Sem.run_pure, Result.andThen_ok, e1, hf]
    simp [newRow]
  · simp only [if_neg h0, Sem.run_bind, hz, Sem.run_pure, Result.andThen_ok, hf]
    simp [newRow]

/-- What is promised of an operation that makes or changes memory. -/
def EffOK (C : Ctx) (E : Ent) (O : Nat → Option AObj) (bs : Nat → Option Hd) (w : World) (s : Sem Next) (fresh : Nat) (u : AV) (l : List (Nat × AObj)) : Prop :=
  ∃ nx v w' bs', s.run C.P w = .ok nx w' ∧ (nx = .value v ∨ nx = .skip ∧ v = undef) ∧ (∀ i, i ≠ fresh → bs' i = bs i) ∧ Step w (MB E O bs) bs w' (MB E (upL O l) bs') bs' ∧ WRep C E (upL O l) bs' w' ∧ V w' (MB E (upL O l) bs') bs' v u

section
variable {C : Ctx} {te : TE} (hte : TE.ok C.P te) {E : Ent} {O : Nat → Option AObj} {bs : Nat → Option Hd} {w : World} (hW : WRep C E O bs w) {N : Nat} {T : Nat → Option AV} {a : Act} (hF : FRep w (MB E O bs) bs N T a) {fresh : Nat} (hO : O fresh = none) (hb : bs fresh = none)
include hte hW

omit hte in
/-- A new block of cells. -/
theorem new_cells (hb : bs fresh = none) {vs : Array Value} {cs : List AV} (hc : CellsV w (MB E O bs) bs vs cs) (t : TypeId) :
    Step w (MB E O bs) bs (w.alloc (.cells vs t)) (MB E (up O fresh (.cells cs t)) (up bs fresh (.blk w.heap.size 0))) (up bs fresh (.blk w.heap.size 0)) ∧ WRep C E (up O fresh (.cells cs t)) (up bs fresh (.blk w.heap.size 0)) (w.alloc (.cells vs t)) := by
  refine hW.new hb rfl rfl ⟨rfl, fun _ => Nat.le_refl _⟩ rfl (.cells vs t) (.cells cs t) 0 (fun _ _ _ _ => by simp) fun hS hn => ?_
  exact ⟨w.heap.size, 0, vs, up_same _ _ _, hn, hc.1, hc.2.1, fun j v u hv hu => (hc.2.2 j v u hv hu).step hS⟩

omit hte in
theorem new_row (hb : bs fresh = none) {w1 : World} (h1 : w1.heap = w.heap) (h2 : w1.os = w.os) (h3 : TL C.cnt w1 w) (h4 : w1.output = w.output) {vs : Array Value} {e : TypeId} {sz n c : Nat} {f : Nat → List AV} (hnc : n ≤ c) (hcm : c ≤ maxLen) (hvs : vs.size = c * sz)
    (hl : ∀ i, i < n → (f i).length = sz) (ho : ∀ i, i < n → ∀ j, j < sz → ∀ v : Value, vs[i * sz + j]? = some v → v.oneCell' = true)
    (hV : ∀ i, i < n → ∀ (j : Nat) v u, j < sz → vs[i * sz + j]? = some v → (f i)[j]? = some u → V w (MB E O bs) bs v u) :
    Step w (MB E O bs) bs (w1.alloc (.cells vs e)) (MB E (up O fresh (.row e sz n f false)) (up bs fresh (.blk w.heap.size c))) (up bs fresh (.blk w.heap.size c)) ∧
      WRep C E (up O fresh (.row e sz n f false)) (up bs fresh (.blk w.heap.size c)) (w1.alloc (.cells vs e)) := by
  refine hW.new hb h1 h2 h3 h4 (.cells vs e) (.row e sz n f false) c (fun _ _ _ _ => by simp) fun hS hn => ?_
  exact .inr ⟨w.heap.size, c, vs, up_same _ _ _, hn, hnc, hcm, hvs, hl, ho, fun i hi j v u hj hv hu => (hV i hi j v u hj hv hu).step hS⟩

theorem eff_append {t : TypeId} {x y : Operand} {s u r : AV} {ti tie : TI} {e : TypeId} {m : Nat} {g : Nat → List AV} {vc P : Prop} {l : List (Nat × AObj)} {ty : TypeId}
    (hF : FRep w (MB E O bs) bs N T a) (hO : O fresh = none) (hb : bs fresh = none)
    (hx : evO T x = some s) (hy : evO T y = some u) (ht : lk te t = some ti) (hd : ti.desc = .slice e) (he : lk te e = some tie) (hs : srcA O tie.sz u = some (m, g, vc))
    (h : appA O fresh e tie m g vc s = some (r, l, P)) (hP : P) :
    EffOK C E O bs w (do pure (.value (← Builtin.append_ #[t, t] ty #[a.eval x, a.eval y]))) fresh r l := by
  have hsx := evO_sound hF hx
  have hsy := evO_sound hF hy
  have wrap : ∀ (s : Sem Value) v w', s.run C.P w = .ok v w' → (do pure (.value (← s)) : Sem Next).run C.P w = .ok (.value v) w' := by
    intro s v w' hs; simp [hs]
  -- what is appended to something without capacity
  have fromNone : ∀ (O1 : Nat → Option AObj) (_ : WRep C E O1 bs w) (_ : Step w (MB E O bs) bs w (MB E O1 bs) bs) (As : Option Addr), a.eval x = .slice As 0 0 → vc → tie.zero.cells.size = tie.sz → m ≤ maxLen → m * tie.bytes ≤ 140737488355328 →
      ∀ (f : Nat → List AV), (∀ i, f i = g i) →
      ∃ nx v w' bs', (do pure (.value (← Builtin.append_ #[t, t] ty #[a.eval x, a.eval y])) : Sem Next).run C.P w = .ok nx w' ∧ (nx = .value v ∨ nx = .skip ∧ v = undef) ∧ (∀ i, i ≠ fresh → bs' i = bs i) ∧
        Step w (MB E O bs) bs w' (MB E (up O1 fresh (.row e tie.sz m f false)) bs') bs' ∧ WRep C E (up O1 fresh (.row e tie.sz m f false)) bs' w' ∧ V w' (MB E (up O1 fresh (.row e tie.sz m f false)) bs') bs' v (.own fresh m) := by
    intro O1 hW1 hS1 As hev hvc hz hm hbb f hfg
    obtain rfl : f = g := funext hfg
    obtain ⟨A, c', news, hv, hl, hA, h1, hgl, hgV⟩ := srcA_sound hW hsy hs hvc
    obtain ⟨v', w', hr, hcase⟩ := run_app hte ht hd he hz (w := w) (ty := ty) (As := As) (n := 0) (c := 0) [] (.inl ⟨rfl, rfl, rfl⟩) (A := A) (c' := c') news hl hA h1 (by omega) (by simpa using hbb)
    rw [← hev, ← hv] at hr
    rcases hcase with ⟨hm0, rfl, rfl⟩ | ⟨b, vs, h0, _, _, hbad, _⟩ | ⟨cap, zs, hc1, hc2, hzs, rfl, rfl⟩
    · subst hm0
      obtain ⟨k1, k2⟩ := hW1.newnil hb e tie.sz f (n := 0) rfl
      exact ⟨_, _, _, up bs fresh .nil, wrap _ _ _ hr, .inl rfl, fun i hi => up_other _ _ _ (Ne.symm hi), hS1.trans k1, k2, .ownnil (up_same _ _ _) rfl⟩
    · omega
    · simp only [Nat.zero_add] at hc1 hzs hr ⊢
      have hsize : ((([] : List Value).toArray ++ news.toArray ++ zs).size) = cap * tie.sz := by
        simp only [Array.size_append, List.size_toArray, List.length_nil, Nat.zero_add, hl, hzs, ← Nat.add_mul]
        congr 1; omega
      have hget : ∀ i, i < m → ∀ j, j < tie.sz → ((([] : List Value).toArray ++ news.toArray ++ zs))[i * tie.sz + j]? = news[i * tie.sz + j]? := by
        intro i hi j hj
        have hlt : i * tie.sz + j < news.length := by
          rw [hl]
          have : (i + 1) * tie.sz ≤ m * tie.sz := Nat.mul_le_mul_right _ (by omega)
          rw [Nat.add_mul, Nat.one_mul] at this
          omega
        rw [Array.getElem?_append_left (by simpa using hlt)]
        simp
      obtain ⟨k1, k2⟩ := new_row hW1 hb (w1 := w.drew) rfl rfl ⟨rfl, fun _ => Nat.le_succ _⟩ rfl (e := e) (f := f) hc1 hc2 hsize hgl
        (fun i hi j hj v hv' => by rw [hget i hi j hj] at hv'; exact h1 v (List.mem_of_getElem? hv')) (fun i hi j v u hj hv' hu => by rw [hget i hi j hj] at hv'; exact (hgV i hi j u v hj hu hv').step hS1)
      exact ⟨_, _, _, up bs fresh (.blk w.heap.size cap), wrap _ _ _ hr, .inl rfl, fun i hi => up_other _ _ _ (Ne.symm hi), hS1.trans k1, k2, .own (up_same _ _ _) hc1 hc2⟩
  unfold appA at h
  split at h
  · rename_i r0 n
    split at h
    · rename_i e' sz n0 f ho
      simp only [Option.some.injEq, Prod.mk.injEq] at h
      obtain ⟨rfl, rfl, rfl⟩ := h
      obtain ⟨hvc, hn0, rfl, rfl, hz, h63, hbb⟩ := hP
      generalize hev : a.eval x = vx at hsx
      cases hsx with
      | ownnil hbr hn =>
        rename_i As
        subst hn
        obtain ⟨k1, k2⟩ := hW.kill r0
        have := fromNone _ k2 k1 As hev hvc hz (by omega) (by simpa using hbb) (apF 0 f g) (fun i => by simp [apF])
        simpa only [EffOK, upL, Nat.zero_add, hev] using this
      | own hbr hnc hcm =>
        rename_i b c
        have hrf : r0 ≠ fresh := by rintro rfl; rw [ho] at hO; cases hO
        rcases hW.obj r0 _ ho with ⟨q1, q2⟩ | ⟨b', c', vs, hb', hh, hnc', hcm', hvs, hfl, hf1, hfV⟩
        · rw [q1] at hbr; cases hbr
        · rw [hb'] at hbr
          injection hbr with hbr
          injection hbr with e1 e2
          subst e1; subst e2
          obtain ⟨A, cc, news, hv, hl, hA, h1, hgl, hgV⟩ := srcA_sound hW hsy hs hvc
          obtain ⟨v', w', hr, hcase⟩ := run_app hte ht hd he hz (w := w) (ty := ty) (As := some ⟨b', 0, none⟩) (n := n) (c := c') (vs.toList.take (n * tie.sz)) (.inr ⟨b', vs, rfl, hh, hnc, hvs, rfl⟩) (A := A) (c' := cc) news hl hA h1 h63 hbb
          rw [← hv] at hr
          have hnle : n * tie.sz ≤ vs.size := by rw [hvs]; exact Nat.mul_le_mul_right _ hnc
          -- the cells, whichever array holds them
          have cellsOf : ∀ (ws : Array Value), (∀ i, i < n * tie.sz → ws[i]? = vs[i]?) → (∀ j, j < m * tie.sz → ws[n * tie.sz + j]? = news[j]?) →
              (∀ i, i < n + m → (apF n f g i).length = tie.sz) ∧ (∀ i, i < n + m → ∀ j, j < tie.sz → ∀ v : Value, ws[i * tie.sz + j]? = some v → v.oneCell' = true) ∧
              ∀ i, i < n + m → ∀ (j : Nat) v u, j < tie.sz → ws[i * tie.sz + j]? = some v → (apF n f g i)[j]? = some u → V w (MB E O bs) bs v u := by
            intro ws w1 w2
            have lo : ∀ i, i < n → ∀ j, j < tie.sz → ws[i * tie.sz + j]? = vs[i * tie.sz + j]? := by
              intro i hi j hj
              refine w1 _ ?_
              have : (i + 1) * tie.sz ≤ n * tie.sz := Nat.mul_le_mul_right _ (by omega)
              rw [Nat.add_mul, Nat.one_mul] at this
              omega
            have hi' : ∀ i, n ≤ i → i < n + m → ∀ j, j < tie.sz → ws[i * tie.sz + j]? = news[(i - n) * tie.sz + j]? := by
              intro i hi hi2 j hj
              have : (i - n + 1) * tie.sz ≤ m * tie.sz := Nat.mul_le_mul_right _ (by omega)
              rw [Nat.add_mul, Nat.one_mul] at this
              rw [← w2 _ (by omega), ← Nat.add_assoc, ← Nat.add_mul, show n + (i - n) = i by omega]
            refine ⟨fun i hi => ?_, fun i hi j hj v hv' => ?_, fun i hi j v u hj hv' hu => ?_⟩
            · unfold apF
              split
              · exact hfl i (by omega)
              · exact hgl _ (by omega)
            · rcases Nat.lt_or_ge i n with hin | hin
              · rw [lo i hin j hj] at hv'; exact hf1 i (by omega) j hj v hv'
              · rw [hi' i hin hi j hj] at hv'; exact h1 v (List.mem_of_getElem? hv')
            · unfold apF at hu
              rcases Nat.lt_or_ge i n with hin | hin
              · rw [if_pos hin] at hu
                rw [lo i hin j hj] at hv'; exact hfV i (by omega) j v u hj hv' hu
              · rw [if_neg (by omega)] at hu
                rw [hi' i hin hi j hj] at hv'; exact hgV (i - n) (by omega) j u v hj hu hv'
          rcases hcase with ⟨rfl, rfl, rfl⟩ | ⟨b2, vs2, h0, hAs, hh2, hroom, rfl, hvs2, _, rfl⟩ | ⟨cap, zs, hc1, hc2, hzs, rfl, rfl⟩
          · have hnews : news = [] := List.eq_nil_of_length_eq_zero (by simpa using hl)
            subst hnews
            obtain ⟨c1, c2, c3⟩ := cellsOf vs (fun _ _ => rfl) (fun j hj => by simp at hj)
            obtain ⟨k1, k2⟩ := hW.move ho rfl hb' hO hb (w' := w') (fun _ _ => rfl) rfl rfl ⟨rfl, fun _ => Nat.le_refl _⟩ rfl (.row e' tie.sz (n + 0) (apF n f g) false) rfl c' fun hS =>
              .inr ⟨b', c', vs, up_same _ _ _, hh, by omega, hcm, hvs, c1, c2, fun i hi j v u hj hv' hu => (c3 i hi j v u hj hv' hu).step hS⟩
            exact ⟨_, _, _, up bs fresh (.blk b' c'), wrap _ _ _ hr, .inl rfl, fun i hi => up_other _ _ _ (Ne.symm hi), k1, k2, .own (up_same _ _ _) (by omega) hcm⟩
          · injection hAs with hAs
            injection hAs with hAs
            subst hAs
            rw [hh] at hh2
            injection hh2 with hh2
            injection hh2 with hh2
            subst hh2
            have hfit : n * tie.sz + m * tie.sz ≤ vs.size := by rw [hvs, ← Nat.add_mul]; exact Nat.mul_le_mul_right _ hroom
            have hlen : (vs.toList.take (n * tie.sz)).length = n * tie.sz := by simp; omega
            obtain ⟨c1, c2, c3⟩ := cellsOf (vs.toList.take (n * tie.sz) ++ news ++ vs.toList.drop (n * tie.sz + news.length)).toArray
              (fun i hi => by
                simp only [List.getElem?_toArray, List.append_assoc]
                rw [List.getElem?_append_left (by omega), List.getElem?_take, if_pos hi, Array.getElem?_toList])
              (fun j hj => by
                simp only [List.getElem?_toArray, List.append_assoc]
                rw [List.getElem?_append_right (by omega), hlen, Nat.add_sub_cancel_left, List.getElem?_append_left (by omega)])
            obtain ⟨k1, k2⟩ := hW.move ho rfl hb' hO hb (w' := w.setRow b' _) (fun k hk => setRow_other w b' k _ hk) (size_setRow _ _ _) rfl ⟨rfl, fun _ => Nat.le_refl _⟩ rfl (.row e' tie.sz (n + m) (apF n f g) false) rfl c' fun hS =>
              .inr ⟨b', c', _, up_same _ _ _, setRow_heap w b' vs _ e' (0, 0) hh, hroom, hcm, by simp only [List.size_toArray, List.length_append, hlen, hl, List.length_drop, Array.length_toList]; omega, c1, c2, fun i hi j v u hj hv' hu => (c3 i hi j v u hj hv' hu).step hS⟩
            exact ⟨_, _, _, up bs fresh (.blk b' c'), wrap _ _ _ hr, .inl rfl, fun i hi => up_other _ _ _ (Ne.symm hi), k1, k2, .own (up_same _ _ _) hroom hcm⟩
          · obtain ⟨q1, q2⟩ := hW.kill r0
            have hlen : (vs.toList.take (n * tie.sz)).length = n * tie.sz := by simp; omega
            obtain ⟨c1, c2, c3⟩ := cellsOf ((vs.toList.take (n * tie.sz)).toArray ++ news.toArray ++ zs)
              (fun i hi => by
                rw [Array.append_assoc, Array.getElem?_append_left (by simpa [hlen] using hi), List.getElem?_toArray, List.getElem?_take, if_pos hi, Array.getElem?_toList])
              (fun j hj => by
                rw [Array.append_assoc, Array.getElem?_append_right (by simp only [List.size_toArray, hlen]; omega)]
                simp only [List.size_toArray, hlen, Nat.add_sub_cancel_left]
                rw [Array.getElem?_append_left (by simpa [hl] using hj), List.getElem?_toArray])
            obtain ⟨k1, k2⟩ := new_row q2 hb (w1 := w.drew) rfl rfl ⟨rfl, fun _ => Nat.le_succ _⟩ rfl (e := e') (f := apF n f g) hc1 hc2
              (by simp only [Array.size_append, List.size_toArray, hlen, hl, hzs, ← Nat.add_mul]; congr 1; omega) c1 c2 (fun i hi j v u hj hv' hu => (c3 i hi j v u hj hv' hu).step q1)
            exact ⟨_, _, _, up bs fresh (.blk w.heap.size cap), wrap _ _ _ hr, .inl rfl, fun i hi => up_other _ _ _ (Ne.symm hi), q1.trans k1, k2, .own (up_same _ _ _) hc1 hc2⟩
    · cases h
  · simp only [Option.some.injEq, Prod.mk.injEq] at h
    obtain ⟨rfl, rfl, rfl⟩ := h
    obtain ⟨hvc, hz, h63, hbb⟩ := hP
    generalize hev : a.eval x = vx at hsx
    cases hsx
    have := fromNone O hW (Step.refl _ _ _) none hev hvc hz h63 hbb g (fun _ => rfl)
    simpa only [EffOK, upL, hev] using this
  · simp only [Option.some.injEq, Prod.mk.injEq] at h
    obtain ⟨rfl, rfl, rfl⟩ := h
    obtain ⟨hvc, hz, h63, hbb⟩ := hP
    generalize hev : a.eval x = vx at hsx
    cases hsx
    rename_i As
    have := fromNone O hW (Step.refl _ _ _) As hev hvc hz h63 hbb g (fun _ => rfl)
    simpa only [EffOK, upL, hev] using this
  · cases h

theorem evalEff_sound (hF : FRep w (MB E O bs) bs N T a) (hO : O fresh = none) (hb : bs fresh = none) {o : Oper} {u : AV} {l : List (Nat × AObj)} {vc : Prop} (h : evalEff te T O fresh o.op = some (u, l, vc)) (hvc : vc) :
    EffOK C E O bs w (execOp a.eval o) fresh u l := by
  have ev := fun {x : Operand} {u : AV} (h : evO T x = some u) => evO_sound hF h
  have wrap : ∀ (s : Sem Value) v w', s.run C.P w = .ok v w' → (do pure (.value (← s)) : Sem Next).run C.P w = .ok (.value v) w' := by
    intro s v w' hs; simp [hs]
  have wrapU : ∀ (s : Sem Unit) w', s.run C.P w = .ok () w' → (do s; pure .skip : Sem Next).run C.P w = .ok .skip w' := by
    intro s w' hs; simp [hs]
  obtain ⟨dst, op, ty, pos, after, guard⟩ := o
  simp only at h
  unfold evalEff at h
  split at h
  · rename_i t
    split at h
    · rename_i z hz
      simp only [Option.some.injEq, Prod.mk.injEq] at h
      obtain ⟨rfl, rfl, rfl⟩ := h
      unfold zeroA at hz
      split at hz
      · rename_i ti hti
        have hc : CellsV w (MB E O bs) bs ti.zero.cells z := by simpa using avcs_sound (w := w) (M := MB E O bs) (bs := bs) _ _ hz
        obtain ⟨k1, k2⟩ := new_cells hW hb hc t
        refine ⟨_, .pointer (some ⟨w.heap.size, 0, none⟩), _, _, wrap _ _ _ ?_, .inl rfl, fun i hi => up_other _ _ _ (Ne.symm hi), k1, k2, .ptr (up_same _ _ _)⟩
        simp [Instr.alloc, run_zero hte (w := w) hti, newVar, newRow]
      · cases hz
    · cases h
  · rename_i t x
    split at h
    · rename_i ux hx
      split at h
      · rename_i cs hcs
        simp only [Option.some.injEq, Prod.mk.injEq] at h
        obtain ⟨rfl, rfl, rfl⟩ := h
        obtain ⟨k1, k2⟩ := new_cells hW hb (cellsA_sound (ev hx) hcs) t
        refine ⟨_, .pointer (some ⟨w.heap.size, 0, none⟩), _, _, wrap _ _ _ ?_, .inl rfl, fun i hi => up_other _ _ _ (Ne.symm hi), k1, k2, .ptr (up_same _ _ _)⟩
        simp [Instr.box, newVar, newRow]
      · cases h
    · cases h
  · rename_i t len parts
    split at h
    · rename_i ti hti
      split at h
      · rename_i e hd
        split at h
        · rename_i tie z hte' hz
          split at h
          · rename_i cs hcs
            simp only [Option.some.injEq, Prod.mk.injEq] at h
            obtain ⟨rfl, rfl, rfl⟩ := h
            obtain ⟨hlim, hzl, hlm⟩ := hvc
            unfold zeroA at hz
            rw [hte'] at hz
            have hc : CellsV w (MB E O bs) bs tie.zero.cells z := by simpa using avcs_sound (w := w) (M := MB E O bs) (bs := bs) _ _ hz
            have hu := run_und hte (w := w) hti
            rw [hd] at hu
            have hsz := run_size hte (w := w) hte'
            have hzr := run_zero hte (w := w) hte'
            have hzs : tie.zero.cells.size = tie.sz := by rw [hc.1, hzl]
            -- the zeros, laid row on row
            have hlen : (List.replicate len z).flatten.length = len * tie.sz := by simp [hzl]
            have hget : ∀ j, j < len * tie.sz → (List.replicate len z).flatten[j]? = z[j % tie.sz]? := by
              intro j hj
              clear hlen hcs hlim hlm
              induction len generalizing j with
              | zero => simp at hj
              | succ len ih =>
                rw [List.replicate_succ, List.flatten_cons]
                rcases Nat.lt_or_ge j tie.sz with h1 | h1
                · rw [List.getElem?_append_left (by omega), Nat.mod_eq_of_lt h1]
                · rw [List.getElem?_append_right (by omega), hzl, ih _ (by rw [Nat.add_mul, Nat.one_mul] at hj; omega), Nat.mod_eq_sub_mod h1]
            have hc0 : CellsV w (MB E O bs) bs ((Array.range (len * tie.sz)).map (tie.zero.cells[· % tie.zero.cells.size]!)) (List.replicate len z).flatten := by
              have at_ : ∀ (j : Nat) (x : Value), ((Array.range (len * tie.sz)).map (tie.zero.cells[· % tie.zero.cells.size]!))[j]? = some x → j < len * tie.sz ∧ tie.zero.cells[j % tie.sz]? = some x := by
                intro j x hx
                simp only [Array.getElem?_map, Array.getElem?_range] at hx
                split at hx
                · rename_i hj
                  simp only [Option.map_some, Option.some.injEq] at hx
                  refine ⟨hj, ?_⟩
                  have hpos : 0 < tie.sz := by
                    rcases Nat.eq_zero_or_pos tie.sz with h | h
                    · rw [h] at hj; simp at hj
                    · exact h
                  have hlt : j % tie.sz < tie.zero.cells.size := by rw [hzs]; exact Nat.mod_lt _ hpos
                  rw [← hx, hzs]
                  simp [hlt]
                · cases hx
              refine ⟨by simp [hzl], fun j x hx => hc.2.1 _ _ (at_ j x hx).2, fun j x y hx hy => ?_⟩
              obtain ⟨hj, hx⟩ := at_ j x hx
              rw [hget j hj] at hy
              exact hc.2.2 _ _ _ hx hy
            obtain ⟨vs, hf, hcv⟩ := fillA_sound hF _ _ _ _ hc0 hcs
            have hcl : cs.length = len * tie.sz := by
              have : ∀ (ps : List (Nat × Operand)) (c0 r : List AV), fillA T (fun i => some (i * tie.sz, tie.sz)) c0 ps = some r → r.length = c0.length := by
                intro ps
                induction ps with
                | nil => intro c0 r h; simp only [fillA, Option.some.injEq] at h; subst h; rfl
                | cons p ps ih =>
                  intro c0 r h
                  obtain ⟨i, x⟩ := p
                  simp only [fillA] at h
                  split at h
                  · split at h
                    · split at h
                      · split at h
                        · rename_i hs
                          rw [ih _ _ h, (spliceA_spec _ _ _ _ hs).1]
                        · cases h
                      · cases h
                    · cases h
                  · cases h
              rw [this _ _ _ hcs, hlen]
            obtain ⟨g1, g2⟩ := chunkA_spec tie.sz len cs hcl
            obtain ⟨k1, k2⟩ := new_row hW hb (w1 := w) rfl rfl ⟨rfl, fun _ => Nat.le_refl _⟩ rfl (vs := vs) (e := e) (sz := tie.sz) (n := len) (c := len) (f := chunkA tie.sz cs) (Nat.le_refl _) hlm (by rw [hcv.1, hcl]) g1
              (fun i hi j hj v hv => hcv.2.1 _ _ hv) (fun i hi j v u hj hv hu => hcv.2.2 _ _ _ hv (g2 i hi j u hj hu))
            refine ⟨_, .slice (some ⟨w.heap.size, 0, none⟩) len len, _, _, wrap _ _ _ ?_, .inl rfl, fun i hi => up_other _ _ _ (Ne.symm hi), k1, k2, .own (up_same _ _ _) (Nat.le_refl _) hlm⟩
            exact run_buildSlice hu hsz hzr hlim hzs (by simpa using hf) (by rw [hcv.1, hcl])
          · cases h
        · cases h
      · cases h
    · cases h
  · simp only [Option.some.injEq, Prod.mk.injEq] at h
    obtain ⟨rfl, rfl, rfl⟩ := h
    obtain ⟨k1, k2⟩ := hW.new hb (w1 := w) rfl rfl ⟨rfl, fun _ => Nat.le_refl _⟩ rfl (.map #[] 0) (.amap []) 0 (fun _ _ _ _ => by simp) fun hS hn =>
      ⟨w.heap.size, 0, #[], 0, up_same _ _ _, hn, ⟨rfl, fun j e p he => by simp at he⟩, ⟨rfl, fun i e he => by simp at he⟩⟩
    refine ⟨_, .map (some w.heap.size), _, _, wrap _ _ _ ?_, .inl rfl, fun i hi => up_other _ _ _ (Ne.symm hi), k1, k2, .map (up_same _ _ _)⟩
    simp [Instr.makeMap]
  · rename_i t x
    split at h
    · rename_i s ti hx hti
      have hu := run_und hte (w := w) hti
      split at h
      · rename_i hd
        rw [hd] at hu
        simp only [Option.some.injEq, Prod.mk.injEq] at h
        obtain ⟨rfl, rfl, rfl⟩ := h
        have hs := ev hx
        generalize hz : a.eval x = v at hs
        cases hs with
        | str hs =>
          rename_i b
          obtain ⟨k1, k2⟩ := hW.new hb (w1 := w) rfl rfl ⟨rfl, fun _ => Nat.le_refl _⟩ rfl (.stringIter b 0) (.siter s 0) 0 (fun _ _ _ _ => by simp) fun hS hn => ⟨w.heap.size, 0, b, up_same _ _ _, hn, hs⟩
          refine ⟨_, .pointer (some ⟨w.heap.size, 0, none⟩), _, _, wrap _ _ _ ?_, .inl rfl, fun i hi => up_other _ _ _ (Ne.symm hi), k1, k2, .ptr (up_same _ _ _)⟩
          simp [hz, Instr.range, hu]
      · cases h
    · rename_i m ti hx hti
      have hu := run_und hte (w := w) hti
      split at h
      · rename_i kt et hd
        rw [hd] at hu
        split at h
        · rename_i es ho
          simp only [Option.some.injEq, Prod.mk.injEq] at h
          obtain ⟨rfl, rfl, rfl⟩ := h
          obtain ⟨bm, cm, ents, clock, hbm, hh, he, hborn⟩ := hW.obj m _ ho
          have hs := ev hx
          generalize hz : a.eval x = v at hs
          cases hs with
          | map hb' =>
            rename_i b' c'
            rw [hbm] at hb'
            injection hb' with hb'
            injection hb' with e1 e2
            subst e1
            have hc : clock = es.length := by rw [hborn.1, he.1]
            obtain ⟨k1, k2⟩ := hW.new hb (w1 := w) rfl rfl ⟨rfl, fun _ => Nat.le_refl _⟩ rfl (.mapIter (some bm) clock #[] clock) (.miter m es.length (t :: es.length :: List.range es.length)) 0 (fun _ _ _ _ => by simp) fun hS hn =>
              ⟨w.heap.size, 0, bm, cm, #[], up_same _ _ _, hS.bs _ _ hbm, by rw [← hc]; exact hn, List.nodup_range, fun i hi => by simpa using hi, fun i hi => by simp [hi], fun i hi hlt => by simp at hi; omega⟩
            refine ⟨_, .pointer (some ⟨w.heap.size, 0, none⟩), _, _, wrap _ _ _ ?_, .inl rfl, fun i hi => up_other _ _ _ (Ne.symm hi), k1, k2, .ptr (up_same _ _ _)⟩
            simp [hz, Instr.range, hu, getObj, Sem.run, hh]
        · cases h
      · cases h
    · cases h
  · rename_i t x y
    split at h
    · rename_i p ux ti hx hy hti
      split at h
      · rename_i new hnew
        obtain ⟨n1, n2, n3⟩ := cellsA_sound (ev hy) hnew
        have hsz := run_size hte (w := w) hti
        have hpt := ev hx
        -- the store itself
        have run : ∀ g off vs tt, a.eval x = .pointer (some ⟨g, off, none⟩) → w.heap[g]? = some (.cells vs tt (0, 0)) → off + new.length ≤ vs.size → new.length = ti.sz →
            (Instr.storeAt t (a.eval x) (a.eval y)).run C.P w = .ok () (w.setRow g (vs.toList.take off ++ (a.eval y).cells.toList ++ vs.toList.drop (off + (a.eval y).cells.toList.length)).toArray) := by
          intro g off vs tt hev hg hle heq
          have hst := run_storeCells_at C.P g off tt (a.eval y).cells.toList 0 vs w hg (by simpa [n1] using hle) (fun v hv => by
            obtain ⟨j, hj, e⟩ := List.mem_iff_getElem.1 hv
            exact n2 j v (by rw [← Array.getElem?_toList, List.getElem?_eq_getElem hj, e]))
          simp only [Nat.add_zero] at hst
          have hsize : (a.eval y).cells.size = ti.sz := by rw [n1, heq]
          rw [hev]
          simp [Instr.storeAt, Instr.sureAddr, storeVar, hsz, hsize, hst]
        have cellsAt : ∀ (vs : Array Value) (off : Nat) (k : Nat), off + new.length ≤ vs.size →
            ((vs.toList.take off ++ (a.eval y).cells.toList ++ vs.toList.drop (off + (a.eval y).cells.toList.length)).toArray)[k]? = if off ≤ k ∧ k < off + new.length then (a.eval y).cells[k - off]? else vs[k]? := by
          intro vs off k hle
          have hl1 : (vs.toList.take off).length = off := by simp; omega
          have hl2 : (a.eval y).cells.toList.length = new.length := by simpa using n1
          simp only [List.getElem?_toArray, List.append_assoc, hl2]
          rcases Nat.lt_or_ge k off with h1 | h1
          · rw [List.getElem?_append_left (by omega), List.getElem?_take, if_pos h1, if_neg (by omega), Array.getElem?_toList]
          · rw [List.getElem?_append_right (by omega), hl1]
            rcases Nat.lt_or_ge k (off + new.length) with h2 | h2
            · rw [List.getElem?_append_left (by omega), if_pos ⟨h1, h2⟩, Array.getElem?_toList]
            · rw [List.getElem?_append_right (by omega), hl2, List.getElem?_drop, if_neg (by omega), Array.getElem?_toList]
              congr 1; omega
        have sizeAt : ∀ (vs : Array Value) (off : Nat), off + new.length ≤ vs.size → ((vs.toList.take off ++ (a.eval y).cells.toList ++ vs.toList.drop (off + (a.eval y).cells.toList.length)).toArray).size = vs.size := by
          intro vs off hle
          have hl2 : (a.eval y).cells.size = new.length := n1
          simp [hl2]; omega
        split at h
        · rename_i r off
          split at h
          · rename_i cs tt ho
            split at h
            · rename_i cs' hsp
              simp only [Option.some.injEq, Prod.mk.injEq] at h
              obtain ⟨rfl, rfl, rfl⟩ := h
              obtain ⟨s1, s2, s3⟩ := spliceA_spec _ _ _ _ hsp
              obtain ⟨b, c, vs, hbr, hh, hvs, o1, oV⟩ := hW.obj r _ ho
              generalize hz : a.eval x = vx at hpt
              cases hpt with
              | ptr hb' =>
                rw [hbr] at hb'
                injection hb' with hb'
                injection hb' with e1 e2
                subst e1
                have hr := run b off vs tt hz hh (by omega) hvc
                obtain ⟨k1, k2⟩ := hW.modify ho rfl hbr (w' := w.setRow b _) (fun k hk => setRow_other w b k _ hk) (size_setRow _ _ _) rfl ⟨rfl, fun _ => Nat.le_refl _⟩ rfl (o := .cells cs' tt) rfl fun hS =>
                  ⟨b, c, _, hbr, setRow_heap w b vs _ tt (0, 0) hh, by rw [sizeAt vs off (by omega), hvs, s1], fun j v hv => by
                    rw [cellsAt vs off j (by omega)] at hv
                    split at hv
                    · exact n2 _ _ hv
                    · exact o1 _ _ hv, fun j v u hv hu => by
                    rw [cellsAt vs off j (by omega)] at hv
                    rw [s3 j] at hu
                    split at hv
                    · rename_i hj; rw [if_pos hj] at hu; exact (n3 _ _ _ hv hu).step hS
                    · rename_i hj; rw [if_neg hj] at hu; exact (oV _ _ _ hv hu).step hS⟩
                exact ⟨_, undef, _, bs, wrapU _ _ hr, .inr ⟨rfl, rfl⟩, fun _ _ => rfl, k1, k2, .any⟩
            · cases h
          · cases h
        · rename_i r sz i off
          split at h
          · rename_i tt sz' n f ho
            split at h
            · rename_i cs' hsp
              simp only [Option.some.injEq, Prod.mk.injEq] at h
              obtain ⟨rfl, rfl, rfl⟩ := h
              obtain ⟨hvc, hin, rfl⟩ := hvc
              obtain ⟨s1, s2, s3⟩ := spliceA_spec _ _ _ _ hsp
              rcases hW.obj r _ ho with ⟨q1, q2⟩ | ⟨b, c, vs, hbr, hh, hnc, hcm, hvs, fl, o1, oV⟩
              · omega
              generalize hz : a.eval x = vx at hpt
              cases hpt with
              | eptr hb' =>
                rw [hbr] at hb'
                injection hb' with hb'
                injection hb' with e1 e2
                subst e1
                have hfl := fl i hin
                have hle : (i + 1) * sz ≤ c * sz := Nat.mul_le_mul_right _ (by omega)
                rw [Nat.add_mul, Nat.one_mul] at hle
                have hfit : i * sz + off + new.length ≤ vs.size := by omega
                have hr := run b (i * sz + off) vs tt hz hh hfit hvc
                have other : ∀ i', i' ≠ i → ∀ j, j < sz → ¬ (i * sz + off ≤ i' * sz + j ∧ i' * sz + j < i * sz + off + new.length) := by
                  intro i' hne j hj hh
                  rcases Nat.lt_or_ge i' i with h1 | h1
                  · have : (i' + 1) * sz ≤ i * sz := Nat.mul_le_mul_right _ (by omega)
                    rw [Nat.add_mul, Nat.one_mul] at this
                    omega
                  · have : (i + 1) * sz ≤ i' * sz := Nat.mul_le_mul_right _ (by omega)
                    rw [Nat.add_mul, Nat.one_mul] at this
                    omega
                have same : ∀ j, (i * sz + off ≤ i * sz + j ∧ i * sz + j < i * sz + off + new.length) ↔ (off ≤ j ∧ j < off + new.length) := by intro j; omega
                obtain ⟨k1, k2⟩ := hW.modify ho rfl hbr (w' := w.setRow b _) (fun k hk => setRow_other w b k _ hk) (size_setRow _ _ _) rfl ⟨rfl, fun _ => Nat.le_refl _⟩ rfl (o := .row tt sz n (fun k => if k = i then cs' else f k) false) rfl fun hS =>
                  .inr ⟨b, c, _, hbr, setRow_heap w b vs _ tt (0, 0) hh, hnc, hcm, by rw [sizeAt vs _ hfit, hvs], fun k hk => by
                    show (if k = i then cs' else f k).length = sz
                    by_cases hki : k = i
                    · rw [if_pos hki, s1, hfl]
                    · rw [if_neg hki]; exact fl k hk, fun k hk j hj v hv => by
                    rw [cellsAt vs _ _ hfit] at hv
                    split at hv
                    · exact n2 _ _ hv
                    · exact o1 k hk j hj v hv, fun k hk j v u hj hv hu => by
                    rw [cellsAt vs _ _ hfit] at hv
                    replace hu : (if k = i then cs' else f k)[j]? = some u := hu
                    by_cases hki : k = i
                    · subst hki
                      rw [if_pos rfl, s3 j] at hu
                      simp only [same] at hv
                      split at hv
                      · rename_i hjj
                        rw [if_pos hjj] at hu
                        rw [show k * sz + j - (k * sz + off) = j - off by omega] at hv
                        exact (n3 _ _ _ hv hu).step hS
                      · rename_i hjj
                        rw [if_neg hjj] at hu
                        exact (oV k hk j v u hj hv hu).step hS
                    · rw [if_neg hki] at hu
                      rw [if_neg (other k hki j hj)] at hv
                      exact (oV k hk j v u hj hv hu).step hS⟩
                exact ⟨_, undef, _, bs, wrapU _ _ hr, .inr ⟨rfl, rfl⟩, fun _ _ => rfl, k1, k2, .any⟩
            · cases h
          · cases h
        · cases h
      · cases h
    · cases h
  · rename_i args argTypes
    split at h
    · rename_i x y t t' hargs htys
      split at h
      · rename_i s u ti htt hx hy hti
        have htt := Nat.eq_of_beq_eq_true htt
        subst htt
        split at h
        · rename_i e hd
          split at h
          · rename_i tie he
            split at h
            · rename_i m g vc' hs
              have e1 : args = #[x, y] := by apply Array.toList_inj.1; simpa using hargs
              have e2 : argTypes = #[t, t] := by apply Array.toList_inj.1; simpa using htys
              subst e1; subst e2
              have := eff_append (ty := ty) hte hW hF hO hb hx hy hti hd he hs h hvc
              obtain ⟨nx, v, w', bs', h1, h2⟩ := this
              exact ⟨nx, v, w', bs', by simpa [execOp, resolve, invoke, builtin] using h1, h2⟩
            · cases h
          · cases h
        · cases h
      · cases h
    · cases h
  · cases h
end

end Go.Eng
/- The engine, part 13: renaming of objects; what a call promises; operations in a row. -/
namespace Go.Eng

mutual
def AV.rn (ρ : Nat → Option Nat) : AV → AV
  | .ptr r o => match ρ r with
    | some k => .ptr k o
    | none => .any
  | .eptr r s i o => match ρ r with
    | some k => .eptr k s i o
    | none => .any
  | .own r n => match ρ r with
    | some k => .own k n
    | none => .any
  | .sub r s o n => match ρ r with
    | some k => .sub k s o n
    | none => .any
  | .map r => match ρ r with
    | some k => .map k
    | none => .any
  | .func f l => .func f (AV.rnL ρ l)
  | .iface t v => .iface t (AV.rn ρ v)
  | .agg l => .agg (AV.rnL ρ l)
  | .tuple l => .tuple (AV.rnL ρ l)
  | .any => .any
  | .bool b => .bool b
  | .int k n => .int k n
  | .str s => .str s
  | .nilptr => .nilptr
  | .vptr g => .vptr g
  | .nil => .nil
  | .empty => .empty
  | .view sz n f => .view sz n f
  | .nilmap => .nilmap
  | .nilfunc => .nilfunc
  | .nilIface => .nilIface
def AV.rnL (ρ : Nat → Option Nat) : List AV → List AV
  | [] => []
  | u :: l => AV.rn ρ u :: AV.rnL ρ l
end

theorem rnL_get (ρ : Nat → Option Nat) : ∀ (l : List AV) (j : Nat), (AV.rnL ρ l)[j]? = (l[j]?).map (AV.rn ρ)
  | [], j => by simp [AV.rnL]
  | u :: l, 0 => by simp [AV.rnL]
  | u :: l, j + 1 => by simp [AV.rnL, rnL_get ρ l j]
theorem rnL_len (ρ : Nat → Option Nat) : ∀ l : List AV, (AV.rnL ρ l).length = l.length
  | [] => rfl
  | u :: l => by simp [AV.rnL, rnL_len ρ l]

theorem V.rn {w : World} {M : Nat → Prop} {bs : Nat → Option Hd} {v : Value} {u : AV} (h : V w M bs v u) : ∀ (ρ : Nat → Option Nat) (bs' : Nat → Option Hd), (∀ r k x, ρ r = some k → bs r = some x → bs' k = some x) → V w M bs' v (u.rn ρ) := by
  induction h with
  | any => exact fun ρ bs' s => .any
  | bool => exact fun ρ bs' s => .bool
  | int => exact fun ρ bs' s => .int
  | str h => exact fun ρ bs' s => .str h
  | nilptr => exact fun ρ bs' s => .nilptr
  | ptr h =>
    intro ρ bs' s
    simp only [AV.rn]
    split
    · rename_i k hk; exact .ptr (s _ _ _ hk h)
    · exact .any
  | eptr h =>
    intro ρ bs' s
    simp only [AV.rn]
    split
    · rename_i k hk; exact .eptr (s _ _ _ hk h)
    · exact .any
  | vptr cv hM hb hc h1 hv ih => exact fun ρ bs' s => .vptr cv hM hb hc h1 hv
  | nil => exact fun ρ bs' s => .nil
  | empty => exact fun ρ bs' s => .empty
  | view ad cv hn hcm hA hl hc h1 hv ih => exact fun ρ bs' s => .view ad cv hn hcm hA hl hc h1 hv
  | own h hn hcm =>
    intro ρ bs' s
    simp only [AV.rn]
    split
    · rename_i k hk; exact .own (s _ _ _ hk h) hn hcm
    · exact .any
  | ownnil h hn =>
    intro ρ bs' s
    simp only [AV.rn]
    split
    · rename_i k hk; exact .ownnil (s _ _ _ hk h) hn
    · exact .any
  | sub h hn hcm hA =>
    intro ρ bs' s
    simp only [AV.rn]
    split
    · rename_i k hk; exact .sub (s _ _ _ hk h) hn hcm hA
    · exact .any
  | subnil h hn ho =>
    intro ρ bs' s
    simp only [AV.rn]
    split
    · rename_i k hk; exact .subnil (s _ _ _ hk h) hn ho
    · exact .any
  | nilmap => exact fun ρ bs' s => .nilmap
  | map h =>
    intro ρ bs' s
    simp only [AV.rn]
    split
    · rename_i k hk; exact .map (s _ _ _ hk h)
    · exact .any
  | func hl hv ih =>
    intro ρ bs' s
    refine .func (by rw [rnL_len]; exact hl) fun j v u h1 h2 => ?_
    rw [rnL_get] at h2
    obtain ⟨u', hu, rfl⟩ := Option.map_eq_some_iff.1 h2
    exact ih j v u' h1 hu ρ bs' s
  | nilfunc => exact fun ρ bs' s => .nilfunc
  | nilIface => exact fun ρ bs' s => .nilIface
  | iface h ih => exact fun ρ bs' s => .iface (ih ρ bs' s)
  | agg hl h1 hv ih =>
    intro ρ bs' s
    refine .agg (by rw [rnL_len]; exact hl) h1 fun j v u h1 h2 => ?_
    rw [rnL_get] at h2
    obtain ⟨u', hu, rfl⟩ := Option.map_eq_some_iff.1 h2
    exact ih j v u' h1 hu ρ bs' s
  | tuple hl hv ih =>
    intro ρ bs' s
    refine .tuple (by rw [rnL_len]; exact hl) fun j v u h1 h2 => ?_
    rw [rnL_get] at h2
    obtain ⟨u', hu, rfl⟩ := Option.map_eq_some_iff.1 h2
    exact ih j v u' h1 hu ρ bs' s

/-- An object under new names; a row may be told by another function that gives the same. -/
def OLe (ρ : Nat → Option Nat) : AObj → AObj → Prop
  | .cells cs t, .cells cs' t' => AV.rnL ρ cs = cs' ∧ t = t'
  | .row t sz n f fr, .row t' sz' n' f' fr' => t = t' ∧ sz = sz' ∧ n = n' ∧ fr = fr' ∧ ∀ i, i < n → AV.rnL ρ (f i) = f' i
  | .amap es, .amap es' => es.map (fun p => (p.1.rn ρ, p.2.rn ρ)) = es'
  | .siter s p, .siter s' p' => s = s' ∧ p = p'
  | .miter m n l, .miter m' n' l' => ρ m = some m' ∧ n = n' ∧ l = l'
  | .dead, .dead => True
  | _, _ => False

theorem OLe.mut {ρ : Nat → Option Nat} {o o' : AObj} (h : OLe ρ o o') : o.mut = o'.mut := by
  cases o <;> cases o' <;> simp_all [OLe, AObj.mut]

theorem OLe.ok {w : World} {M : Nat → Prop} {bs bs' : Nat → Option Hd} {ρ : Nat → Option Nat} {o o' : AObj} {r k : Nat} (h : OLe ρ o o') (hs : ∀ r k x, ρ r = some k → bs r = some x → bs' k = some x) (hr : ρ r = some k) (hok : ObjOK w M bs r o) : ObjOK w M bs' k o' := by
  cases o with
  | cells cs t =>
    cases o' <;> simp only [OLe] at h
    obtain ⟨rfl, rfl⟩ := h
    obtain ⟨b, c, vs, h1, h2, h3, h4, h5⟩ := hok
    refine ⟨b, c, vs, hs _ _ _ hr h1, h2, by rw [rnL_len]; exact h3, h4, fun j v u hv hu => ?_⟩
    rw [rnL_get] at hu
    obtain ⟨u', hu', rfl⟩ := Option.map_eq_some_iff.1 hu
    exact (h5 j v u' hv hu').rn ρ bs' hs
  | row t sz n f fr =>
    cases o' <;> simp only [OLe] at h
    obtain ⟨rfl, rfl, rfl, rfl, hf⟩ := h
    rcases hok with ⟨h1, h2⟩ | ⟨b, c, vs, h1, h2, h3, h4, h5, h6, h7, h8⟩
    · exact .inl ⟨hs _ _ _ hr h1, h2⟩
    · refine .inr ⟨b, c, vs, hs _ _ _ hr h1, h2, h3, h4, h5, fun i hi => by rw [← hf i hi, rnL_len]; exact h6 i hi, h7, fun i hi j v u hj hv hu => ?_⟩
      rw [← hf i hi, rnL_get] at hu
      obtain ⟨u', hu', rfl⟩ := Option.map_eq_some_iff.1 hu
      exact (h8 i hi j v u' hj hv hu').rn ρ bs' hs
  | amap es =>
    cases o' <;> simp only [OLe] at h
    subst h
    obtain ⟨b, c, ents, clock, h1, h2, h3, h4⟩ := hok
    refine ⟨b, c, ents, clock, hs _ _ _ hr h1, h2, ⟨by simpa using h3.1, fun j e p he hp => ?_⟩, h4⟩
    simp only [List.getElem?_map] at hp
    obtain ⟨p', hp', rfl⟩ := Option.map_eq_some_iff.1 hp
    obtain ⟨a1, a2⟩ := h3.2 j e p' he hp'
    exact ⟨a1.rn ρ bs' hs, a2.rn ρ bs' hs⟩
  | siter s p =>
    cases o' <;> simp only [OLe] at h
    obtain ⟨rfl, rfl⟩ := h
    obtain ⟨b, c, bytes, h1, h2, h3⟩ := hok
    exact ⟨b, c, bytes, hs _ _ _ hr h1, h2, h3⟩
  | miter m n l =>
    cases o' <;> simp only [OLe] at h
    obtain ⟨hm, rfl, rfl⟩ := h
    obtain ⟨b, c, bm, cm, seen, h1, h2, h3, h4⟩ := hok
    exact ⟨b, c, bm, cm, seen, hs _ _ _ hr h1, hs _ _ _ hm h2, h3, h4⟩
  | dead =>
    cases o' <;> simp only [OLe] at h
    trivial

def RepS (C : Ctx) (E : Ent) (N : Nat) (s : St) (bs : Nat → Option Hd) (a : Act) (w : World) : Prop :=
  Rep C E N (lk s.T) (lk s.O) bs a w ∧ (∀ r, s.nx ≤ r → lk s.O r = none ∧ bs r = none) ∧ E.m ≤ s.nx

/-- The state told anew: slots forgotten, objects forgotten or renamed. The first m objects keep their names. -/
structure Weak (m : Nat) (ρ : Nat → Option Nat) (s s' : St) : Prop where
  own : ∀ r, r < m → ρ r = some r
  inj : ∀ r r' k, ρ r = some k → ρ r' = some k → r = r'
  T : ∀ d u', lk s'.T d = some u' → ∃ u, lk s.T d = some u ∧ u.rn ρ = u'
  O : ∀ k o', lk s'.O k = some o' → ∃ r o, ρ r = some k ∧ lk s.O r = some o ∧ OLe ρ o o'
  lt : ∀ r k, ρ r = some k → k < s'.nx
  nx : m ≤ s'.nx

open Classical in
theorem RepS.weak {C : Ctx} {E : Ent} {N : Nat} {s s' : St} {bs : Nat → Option Hd} {a : Act} {w : World} {ρ : Nat → Option Nat} (h : RepS C E N s bs a w) (hw : Weak E.m ρ s s') : ∃ bs', RepS C E N s' bs' a w ∧ ∀ v u, V w (MB E (lk s.O) bs) bs v u → V w (MB E (lk s'.O) bs') bs' v (u.rn ρ) := by
  obtain ⟨⟨hF, hW⟩, hnx, hm⟩ := h
  -- each new name lies where the old one lay
  let bs' : Nat → Option Hd := fun k => if hk : ∃ r, ρ r = some k then bs (Classical.choose hk) else none
  have at_ : ∀ r k, ρ r = some k → bs' k = bs r := by
    intro r k hr
    have hk : ∃ r, ρ r = some k := ⟨r, hr⟩
    show (if hk : ∃ r, ρ r = some k then bs (Classical.choose hk) else none) = bs r
    rw [dif_pos hk, hw.inj _ _ _ (Classical.choose_spec hk) hr]
  have none_ : ∀ k, (¬ ∃ r, ρ r = some k) → bs' k = none := by
    intro k hk
    show (if hk : ∃ r, ρ r = some k then bs (Classical.choose hk) else none) = none
    rw [dif_neg hk]
  have hs : ∀ r k x, ρ r = some k → bs r = some x → bs' k = some x := fun r k x hr hx => by rw [at_ r k hr]; exact hx
  have back : ∀ k h, bs' k = some h → ∃ r, ρ r = some k ∧ bs r = some h := by
    intro k h hk
    by_cases hex : ∃ r, ρ r = some k
    · obtain ⟨r, hr⟩ := hex
      exact ⟨r, hr, by rw [← at_ r k hr]; exact hk⟩
    · rw [none_ k hex] at hk; cases hk
  have hmb : ∀ b, mutB (lk s'.O) bs' b → mutB (lk s.O) bs b := by
    rintro b ⟨k, o', c, ho, hm', hb⟩
    obtain ⟨r, o, hr, hor, hle⟩ := hw.O k o' ho
    exact ⟨r, o, c, hor, by rw [hle.mut]; exact hm', by rw [← at_ r k hr]; exact hb⟩
  have hMB : ∀ b, MB E (lk s'.O) bs' b → MB E (lk s.O) bs b := fun b hb => hb.imp id (hmb b)
  have vm : ∀ {bs0 : Nat → Option Hd} {v : Value} {u : AV}, V w (MB E (lk s.O) bs) bs0 v u → V w (MB E (lk s'.O) bs') bs0 v u := fun h =>
    h.step_ (fun b _ hb hb' => hb (hMB b hb')) (fun _ _ _ => rfl) (Nat.le_refl _) _ fun _ _ hh => hh
  refine ⟨bs', ⟨⟨⟨hF.1, hF.2.1, fun d u' hu' => ?_⟩, ?_⟩, fun r hr => ⟨?_, ?_⟩, hw.nx⟩, fun v u h => vm (h.rn ρ bs' hs)⟩
  · obtain ⟨u, hu, rfl⟩ := hw.T d u' hu'
    obtain ⟨v, hv, hV⟩ := hF.2.2 d u hu
    exact ⟨v, hv, vm (hV.rn ρ bs' hs)⟩
  · exact {
      obj := fun k o' ho => by
        obtain ⟨r, o, hr, hor, hle⟩ := hw.O k o' ho
        have hok := hle.ok hs hr (hW.obj r o hor)
        exact hok.step ⟨fun _ _ h => h, fun b _ hb hb' => hb (hMB b hb'), fun _ _ _ => rfl, Nat.le_refl _⟩ fun _ _ _ => rfl
      sep := fun k k' o1 o2 b c c' h1 h2 m1 m2 b1 b2 => by
        obtain ⟨r, o, hr, hor, hle⟩ := hw.O k o1 h1
        obtain ⟨r', o', hr', hor', hle'⟩ := hw.O k' o2 h2
        have := hW.sep r r' o o' b c c' hor hor' (by rw [hle.mut]; exact m1) (by rw [hle'.mut]; exact m2) (by rw [← at_ r k hr]; exact b1) (by rw [← at_ r' k' hr']; exact b2)
        subst this
        rw [hr] at hr'
        injection hr'
      out := fun b hb => hW.out b (hmb b hb)
      frz := fun k t sz n f b c ho hb hM => by
        obtain ⟨r, o, hr, hor, hle⟩ := hw.O k _ ho
        cases o <;> simp only [OLe] at hle
        obtain ⟨rfl, rfl, rfl, rfl, _⟩ := hle
        exact hW.frz r _ _ _ _ b c hor (by rw [← at_ r k hr]; exact hb) (hMB b hM)
      high := fun b hb => hW.high b (hMB b hb)
      lt := fun k b c hb => by
        obtain ⟨r, _, hbr⟩ := back k _ hb
        exact hW.lt r b c hbr
      outlt := hW.outlt
      keep := hW.keep
      old := fun b hb => hW.old b (hmb b hb)
      size := hW.size
      pre := fun r h hr hb => by rw [at_ r r (hw.own r hr)]; exact hW.pre r h hr hb
      os := hW.os
      tape := hW.tape
      output := hW.output
      laid := hW.laid
      gle := hW.gle }
  · cases hl : lk s'.O r with
    | none => rfl
    | some o' =>
      obtain ⟨r0, o, hr0, _⟩ := hw.O r o' hl
      have := hw.lt _ _ hr0
      omega
  · refine none_ r fun ⟨r0, hr0⟩ => ?_
    have := hw.lt _ _ hr0
    omega

end Go.Eng
