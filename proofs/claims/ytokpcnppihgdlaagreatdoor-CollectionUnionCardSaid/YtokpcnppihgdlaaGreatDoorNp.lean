/- Lemmas that the tied card of CollectionUnion is proved by. -/
import Derived.Test.YtokpcnppihgdlaaGreatDoorNo
import Derived.Test.YtokpcnppihgdlaaGreatDoorNn
import Derived.Shelf.SlGeneric
import Derived.Ground.Names8Prog
import Derived.Shelf.Spec.SlicesGrow
import Derived.Test.YtokpcnppihgdlaaGreatDoorProg
/- A row that nobody writes any more, told as data from a place on. -/
namespace Go.Eng

def frzT (r sz n : Nat) (g : Nat → List AV) : List (Nat × AV) → List (Nat × AV)
  | [] => []
  | p :: l => (p.1, frzC r sz n g p.2) :: frzT r sz n g l
def frzSt (r : Nat) (s : St) : St := match lk s.O r with
  | some (.row _ sz n g _) => ⟨frzT r sz n g s.T, rm r s.O, s.nx, s.dec⟩
  | _ => s
def frzOK (r : Nat) (s : St) : Prop := match lk s.O r with
  | some (.row _ _ n g _) => ∀ i, i < n → nrefL (g i) = true
  | _ => True
theorem lk_frzT {r sz n : Nat} {g : Nat → List AV} : ∀ {T : List (Nat × AV)} {i : Nat} {u : AV}, lk (frzT r sz n g T) i = some u → ∃ u0, lk T i = some u0 ∧ u = frzC r sz n g u0
  | [], i, u, h => by cases h
  | p :: T, i, u, h => by
    rw [frzT, lk_cons] at h
    rw [lk_cons]
    by_cases e : p.1 = i
    · rw [if_pos e] at h ⊢
      exact ⟨_, rfl, (Option.some.inj h).symm⟩
    · rw [if_neg e] at h ⊢
      exact lk_frzT h

theorem RepS.frz {C : Ctx} {E : Ent} {N : Nat} {s : St} {bs : Nat → Option Hd} {a : Act} {w : World} (h : RepS C E N s bs a w) (r : Nat) (hf : frzOK r s) : RepS C E N (frzSt r s) bs a w := by
  unfold frzSt
  unfold frzOK at hf
  split
  · rename_i t sz n g fr hO
    rw [hO] at hf
    obtain ⟨⟨hF, hW⟩, hnx, hm⟩ := h
    obtain ⟨hS, hW1⟩ := hW.freeze hO
    have hF1 := hF.step hS
    obtain ⟨hS2, hW2⟩ := hW1.less (O' := lk (rm r s.O)) fun k o hk => by
      obtain ⟨q1, q2⟩ := lk_rmv r s.O k o hk
      rw [up_other _ _ _ q1]; exact q2
    refine ⟨⟨⟨hF.1, hF.2.1, fun i u hu => ?_⟩, hW2⟩, fun k hk => ⟨?_, (hnx k hk).2⟩, hm⟩
    · obtain ⟨u0, h0, rfl⟩ := lk_frzT hu
      obtain ⟨v, hv, hV⟩ := hF1.2.2 i u0 h0
      exact ⟨v, hv, (V.frzC hW1 (up_same _ _ _) hf hV).step hS2⟩
    · show lk (rm r s.O) k = none
      cases hx : lk (rm r s.O) k with
      | none => rfl
      | some o =>
        have := (lk_rmv r s.O k o hx).2
        rw [(hnx k hk).1] at this; cases this
  · exact h

theorem AWP.frz {C : Ctx} {m N : Nat} {c : Code} {Q : Exit → St → Prop} {s : St} (r : Nat) (hf : frzOK r s) (h : AWP C m N c Q (frzSt r s)) : AWP C m N c Q s := by
  intro E hE bs a w hr
  exact h E hE bs a w (hr.frz r hf)
/-- A row of the answer, if it is there, told as data. -/
def frzO (r : Nat) (R : AV → List (Nat × AObj) → Prop) (u : AV) (O : List (Nat × AObj)) : Prop := match lk O r with
  | some (.row _ sz n g _) => (∀ i, i < n → nrefL (g i) = true) ∧ R (frzC r sz n g u) (rm r O)
  | _ => R u O
theorem ACalls.frzO {C : Ctx} {f : FuncId} {args : List AV} {objs : List AObj} {R : AV → List (Nat × AObj) → Prop} (r : Nat) (h : ACalls C f args objs (Eng.frzO r R)) : ACalls C f args objs R := by
  refine ⟨h.1, fun E bs w cargs h1 h2 h3 h4 h5 h6 h7 => ?_⟩
  refine (h.2 E bs w cargs h1 h2 h3 h4 h5 h6 h7).mono ?_
  rintro e w' ⟨v, u, O', bs', r1, hR0, r3, r4, r5⟩
  unfold Eng.frzO at hR0
  split at hR0
  · rename_i t sz n g fr hO
    obtain ⟨hg, hR⟩ := hR0
    obtain ⟨hS, hW1⟩ := r3.freeze hO
    have hV := V.frzC hW1 (up_same _ _ _) hg (r4.step hS)
    obtain ⟨hS2, hW2⟩ := hW1.less (O' := lk (rm r O')) fun k o hk => by
      obtain ⟨q1, q2⟩ := lk_rmv r O' k o hk
      rw [up_other _ _ _ q1]; exact q2
    refine ⟨v, _, rm r O', bs', r1, hR, hW2, hV.step hS2, fun k hk => ⟨?_, (r5 k hk).2⟩⟩
    cases hx : lk (rm r O') k with
    | none => rfl
    | some o =>
      have := (lk_rmv r O' k o hx).2
      rw [(r5 k hk).1] at this; cases this
  · exact ⟨v, u, O', bs', r1, hR0, r3, r4, r5⟩

/-- A row told by another function that gives the same. -/
theorem WRep.rowEq {C : Ctx} {E : Ent} {O : Nat → Option AObj} {bs : Nat → Option Hd} {w : World} (hW : WRep C E O bs w) {r0 : Nat} {t sz n : Nat} {f f' : Nat → List AV} {fr : Bool} (hd : O r0 = some (.row t sz n f fr)) (hf : ∀ i, i < n → f' i = f i) :
    MB E (up O r0 (.row t sz n f' fr)) bs = MB E O bs ∧ WRep C E (up O r0 (.row t sz n f' fr)) bs w := by
  have hlk : ∀ r o, up O r0 (.row t sz n f' fr) r = some o → (r = r0 ∧ o = .row t sz n f' fr) ∨ (r ≠ r0 ∧ O r = some o) := fun r o ho => by
    by_cases e : r0 = r
    · subst e
      rw [up_same] at ho
      exact .inl ⟨rfl, (Option.some.inj ho).symm⟩
    · rw [up_other _ _ _ e] at ho
      exact .inr ⟨fun e' => e e'.symm, ho⟩
  have hback : ∀ r o, O r = some o → ∃ o', up O r0 (.row t sz n f' fr) r = some o' ∧ o'.mut = o.mut := fun r o ho => by
    by_cases e : r0 = r
    · subst e
      rw [hd] at ho
      obtain rfl := Option.some.inj ho
      exact ⟨_, up_same _ _ _, rfl⟩
    · exact ⟨o, by rw [up_other _ _ _ e]; exact ho, rfl⟩
  have hold : ∀ r o, up O r0 (.row t sz n f' fr) r = some o → ∃ o', O r = some o' ∧ o'.mut = o.mut := fun r o ho => by
    rcases hlk r o ho with ⟨rfl, rfl⟩ | ⟨_, h2⟩
    · exact ⟨_, hd, rfl⟩
    · exact ⟨_, h2, rfl⟩
  have hMB : MB E (up O r0 (.row t sz n f' fr)) bs = MB E O bs := by
    funext b
    apply propext
    constructor
    · rintro (h | ⟨r, o, c, h1, h2, h3⟩)
      · exact .inl h
      · obtain ⟨o', q1, q2⟩ := hold r o h1
        exact .inr ⟨r, o', c, q1, q2.trans h2, h3⟩
    · rintro (h | ⟨r, o, c, h1, h2, h3⟩)
      · exact .inl h
      · obtain ⟨o', q1, q2⟩ := hback r o h1
        exact .inr ⟨r, o', c, q1, q2.trans h2, h3⟩
  have hmb : ∀ b, mutB (up O r0 (.row t sz n f' fr)) bs b → mutB O bs b := fun b ⟨r, o, c, h1, h2, h3⟩ => by
    obtain ⟨o', q1, q2⟩ := hold r o h1
    exact ⟨r, o', c, q1, q2.trans h2, h3⟩
  refine ⟨hMB, ?_⟩
  exact {
    obj := fun r o ho => by
      rw [hMB]
      rcases hlk r o ho with ⟨rfl, rfl⟩ | ⟨hne, ho⟩
      · rcases hW.obj r _ hd with h | ⟨b, c, vs, h1, h2, h3, h4, h5, h6, h7, h8⟩
        · exact .inl h
        · exact .inr ⟨b, c, vs, h1, h2, h3, h4, h5, fun i hi => by rw [hf i hi]; exact h6 i hi, h7, fun i hi j v u hj hv hu => h8 i hi j v u hj hv (by rw [← hf i hi]; exact hu)⟩
      · exact hW.obj r o ho
    sep := fun r r' o1 o2 b c c' h1 h2 m1 m2 b1 b2 => by
      obtain ⟨o1', p1, p2⟩ := hold r o1 h1
      obtain ⟨o2', p3, p4⟩ := hold r' o2 h2
      exact hW.sep r r' o1' o2' b c c' p1 p3 (p2.trans m1) (p4.trans m2) b1 b2
    out := fun b hb => hW.out b (hmb b hb)
    frz := fun r t' sz' n' f2 b c ho hb => by
      rw [hMB]
      rcases hlk r _ ho with ⟨rfl, h⟩ | ⟨hne, ho⟩
      · injection h with e1 e2 e3 e4 e5
        subst e5
        exact hW.frz r _ _ _ _ b c hd hb
      · exact hW.frz r t' sz' n' f2 b c ho hb
    high := fun b hb => hW.high b (by rw [← hMB]; exact hb)
    lt := hW.lt
    outlt := hW.outlt
    keep := hW.keep
    old := fun b hb => hW.old b (hmb b hb)
    size := hW.size
    pre := hW.pre
    os := hW.os
    tape := hW.tape
    output := hW.output
    laid := hW.laid
    gle := hW.gle }

/-- A call that is handed a row told by another function that gives the same. -/
theorem ACalls.rowEq {C : Ctx} {g : FuncId} {args : List AV} {objs : List AObj} {R : AV → List (Nat × AObj) → Prop} (r : Nat) {t sz n : Nat} {f f' : Nat → List AV} {fr : Bool} (hr : objs[r]? = some (.row t sz n f fr)) (hf : ∀ i, i < n → f' i = f i)
    (h : ACalls C g args (objs.set r (.row t sz n f' fr)) R) : ACalls C g args objs R := by
  have hlt : r < objs.length := (List.getElem?_eq_some_iff.1 hr).1
  refine ⟨h.1, fun E bs w cargs h1 h2 h3 h4 h5 h6 h7 => ?_⟩
  obtain ⟨q1, q2⟩ := h4.rowEq (show lkL objs r = some (.row t sz n f fr) from hr) hf
  rw [← lkL_set hlt] at q1 q2
  have := h.2 E bs w cargs h1 (by rw [List.length_set]; exact h2) h3 q2 (by rw [List.length_set]; exact h5) h6 (by rw [q1]; exact h7)
  rw [List.length_set] at this
  exact this

/-- A call that is handed one row of our own, which is given up: as with data in its place. -/
theorem ADet.give {C : Ctx} {g : FuncId} {args args' : List AV} {U : AV} {t sz n : Nat} {f : Nat → List AV} {fr : Bool} (h : ADet C g args' [] U []) (ha : args.map (frzC 0 sz n f) = args') (hn : nrefL args' = true) (hU : nref U = true) (hf : ∀ i, i < n → nrefL (f i) = true) :
    ADet C g args [.row t sz n f fr] U [] := by
  refine ⟨h.1, fun E bs w cargs h1 h2 h3 h4 h5 h6 h7 => ?_⟩
  obtain ⟨hS, hW1⟩ := h4.freeze (show lkL [.row t sz n f fr] 0 = some (.row t sz n f fr) from rfl)
  have no : ∀ r, lkL [] r = none := fun r => by cases r <;> rfl
  have nm : ∀ b', ¬ mutB (lkL []) nob b' := by
    rintro b' ⟨r, o, c, ho, _⟩
    rw [no r] at ho; cases ho
  have hout : ∀ b, E.outer b → b < w.heap.size := fun b hb => Nat.lt_of_lt_of_le (h4.outlt b hb) h4.size
  have hw : WRep C ⟨w, 0, nob, fun _ => False, E.outer⟩ (lkL []) nob w := {
    obj := fun r o ho => by rw [no r] at ho; cases ho
    sep := fun r r' o o' b c c' ho => by rw [no r] at ho; cases ho
    out := fun b hb => absurd hb (nm b)
    frz := fun r t sz n f b c ho => by rw [no r] at ho; cases ho
    high := fun b hb => by
      rcases hb with hb | hb
      · exact h4.high b (.inl hb)
      · exact absurd hb (nm b)
    lt := fun r b c hb => by simp [nob] at hb
    outlt := hout
    keep := fun b _ _ => rfl
    old := fun b hb => absurd hb (nm b)
    size := Nat.le_refl _
    pre := fun r x hr => absurd hr (Nat.not_lt_zero r)
    os := rfl
    tape := .refl _ _
    output := rfl
    laid := h4.laid
    gle := Nat.le_trans h4.gle h4.size }
  have hlen : cargs.length = args'.length := by rw [← ha, List.length_map]; exact h6
  refine (h.2 ⟨w, 0, nob, fun _ => False, E.outer⟩ nob w cargs rfl rfl rfl hw (fun _ _ => rfl) hlen (fun j v u hv hu => ?_)).mono ?_
  · rw [← ha, List.getElem?_map] at hu
    obtain ⟨u0, hu0, rfl⟩ := Option.map_eq_some_iff.1 hu
    have hV := V.frzC hW1 (up_same _ _ _) hf ((h7 j v u0 hv hu0).step hS)
    refine hV.free (fun b _ hb hb' => ?_) (fun _ _ _ => rfl) (Nat.le_refl _) nob (nrefL_get hn j _ (by rw [← ha, List.getElem?_map, hu0]; rfl))
    rcases hb' with hb' | hb'
    · exact hb (.inl hb')
    · exact nm b hb'
  · rintro e w' ⟨v, u, O', bs', rfl, ⟨rfl, rfl⟩, hw', hV', _⟩
    have nl : ∀ r, lk ([] : List (Nat × AObj)) r = none := fun r => rfl
    have nm' : ∀ (bs : Nat → Option Hd) b', ¬ mutB (lk []) bs b' := by
      rintro bs b' ⟨r, o, c, ho, _⟩
      cases ho
    subst h1
    refine ⟨v, u, [], bs, rfl, ⟨rfl, rfl⟩, ?_, hV'.free (fun b _ hb hb' => ?_) (fun _ _ _ => rfl) (Nat.le_refl _) bs hU, fun r hr => ⟨rfl, h5 r (by show 1 ≤ r; have : 1 + 16 ≤ r := hr; omega)⟩⟩
    · exact {
        obj := fun r o ho => by cases ho
        sep := fun r r' o o' b c c' ho => by cases ho
        out := fun b hb => absurd hb (nm' _ b)
        frz := fun r t sz n f b c ho => by cases ho
        high := fun b hb => by
          rcases hb with hb | hb
          · exact h4.high b (.inl hb)
          · exact absurd hb (nm' _ b)
        lt := fun r b c hb => Nat.lt_of_lt_of_le (h4.lt r b c hb) hw'.size
        outlt := h4.outlt
        keep := fun b hb _ => hw'.keep b hb (fun h => h)
        old := fun b hb => absurd hb (nm' _ b)
        size := hw'.size
        pre := fun r x hr hb => by rw [h3] at hb; exact hb
        os := hw'.os
        tape := hw'.tape
        output := hw'.output
        laid := hw'.laid
        gle := h4.gle }
    · rcases hb' with hb' | hb'
      · exact hb (.inl hb')
      · exact nm' _ b hb'
end Go.Eng
/- Comparing and sorting: what the library's functions answer. -/
namespace Go.Eng

def S_scmp : Spec
  | [.str a, .str b], [] => some (.int .i64 (cmpS a b), [], True)
  | _, _ => none
def S_nan : Spec
  | [.int .i64 _], [] => some (.bool false, [], True)
  | _, _ => none
def S_icmp : Spec
  | [.int .i64 a, .int .i64 b], [] => some (.int .i64 (cmpI a b), [], True)
  | _, _ => none
/-- The first of n numbers that is not 0. -/
def orN (v : Nat → Int) : Nat → Int
  | 0 => 0
  | k + 1 => bif decide (orN v k = 0) then v k else orN v k
def S_or : Spec
  | [.own 0 n], [.row t 1 m f fr] => some (.int .i64 (orN (vInt f) n), [(0, .row 3 1 n f false)], t = 3 ∧ fr = false ∧ n = m ∧ n ≤ 100 ∧ ∀ i, i < n → f i = intRow (vInt f) i)
  | _, _ => none
def S_orl (v : Nat → Int) (n k : Nat) : St := ⟨[(3, .int .i64 0), (6, .own 0 n), (7, .int .i64 n), (8, .int .i64 k)], [(0, .row 3 1 n (intRow v) false)], 1, []⟩
def L_or (v : Nat → Int) (n : Nat) : LSpec := fun st Q => canonIs te 1 [3, 6, 7, 8] st (S_orl v n 0) ∧ n ≤ 100 ∧
  condP (decide (orN v n = 0)) (Q (.exit 0) ⟨[(3, .int .i64 0)], [(0, .row 3 1 n (intRow v) false)], 1, []⟩) (Q .ret ⟨[(2, .int .i64 (orN v n))], [(0, .row 3 1 n (intRow v) false)], 1, []⟩)
def lst {α : Type} (g : Nat → α) (n : Nat) : List α := (List.range n).map g
end Go.Eng
/- The rows' products cut short: the loop's states. -/
namespace Go.Eng

def t30 (nm : Nat → List UInt8) (i : Nat) : List UInt8 := (nm i).take 30
end Go.Eng
/- The tape: what its methods answer. -/
namespace Go.Eng

def foldV (n k : Int) : Int := n % 18446744073709551616 % k
def S_fold : Spec
  | [.int .i64 n, .int .i64 k], [] => some (.int .i64 (foldV n k), [], 1 ≤ k ∧ k ≤ 1000000)
  | _, _ => none
def nextV (n : Nat) (v : Nat → Int) (a k : Int) : Int := foldV (bif decide (a < n) then v a.toNat else 0) k
/-- Next: a number below k; the tape moves on. -/
def S_next : Spec
  | [.ptr 0 0, .int .i64 k], [.cells [.view sz n f, .int .i64 a] t] => some (.int .i64 (nextV n (vInt f) a k), [(0, .cells [.view 1 n f, .int .i64 (a + 1)] 28)], t = 28 ∧ sz = 1 ∧ f = intRow (vInt f) ∧ (1 ≤ k ∧ k ≤ 1000000) ∧ (0 ≤ a ∧ a ≤ 4611686018427387904))
  | _, _ => none
/-- ID: seven digits and the check digit. -/
def pw (V j : Nat) : Nat := V / 10 ^ j
def dgI (V k : Nat) : Int := 48 + ((V / 10 ^ (6 - k) % 10 : Nat) : Int)
def idRow (V : Nat) (k : Nat) : List AV := [.int .u8 (dgI V k)]
def idV (n : Int) : Nat := 1000000 + (foldV n 1000000).toNat
def id7 (n : Int) : List UInt8 := bytesA 7 (idRow (idV n))
def idF (n : Int) : List UInt8 := id7 n ++ [UInt8.ofNat (48 + (cdF (id7 n)).1).toNat]
def S_id : Spec
  | [.int .i64 n], [] => some (.str (idF n), [], True)
  | _, _ => none
def S_idl (V : Nat) (j : Nat) : St := ⟨[(3, .int .i64 (pw V j : Nat)), (4, .own 0 7), (5, .int .i64 (6 - (j : Int)))], [(0, .row 5 1 7 (fun k => [.int .u8 (bif decide (7 ≤ k + j) then dgI V k else 0)]) false)], 1, []⟩
def L_id (V : Nat) : LSpec := fun st Q => canonIs te 0 [3, 4, 5] st (S_idl V 0) ∧ V < 2000000 ∧
  Q (.exit 0) ⟨[(4, .own 0 7)], [(0, .row 5 1 7 (idRow V) false)], 1, []⟩

theorem foldV_range {k : Int} (h : 1 ≤ k) (n : Int) : 0 ≤ foldV n k ∧ foldV n k < k := by
  unfold foldV
  exact ⟨Int.emod_nonneg _ (by omega), Int.emod_lt_of_pos _ (by omega)⟩
theorem nextV_range {k : Int} (h : 1 ≤ k) (n : Nat) (v : Nat → Int) (a : Int) : 0 ≤ nextV n v a k ∧ nextV n v a k < k := foldV_range h _
theorem cdF_range (s : List UInt8) : 0 ≤ (cdF s).1 ∧ (cdF s).1 ≤ 9 := by
  unfold cdF
  split
  · show 0 ≤ (10 - cdSum s s.length % 10) % 10 ∧ (10 - cdSum s s.length % 10) % 10 ≤ 9
    omega
  · exact ⟨by decide, by decide⟩
theorem id7_len (n : Int) : (id7 n).length = 7 := by simp [id7, bytesA]
theorem idF_len (n : Int) : (idF n).length = 8 := by rw [idF, List.length_append, id7_len]; rfl
theorem dgI_range (V k : Nat) : 48 ≤ dgI V k ∧ dgI V k ≤ 57 := by
  unfold dgI
  have := Nat.mod_lt (V / 10 ^ (6 - k)) (show 0 < 10 by omega)
  omega
end Go.Eng
/- Products from a tape. -/
namespace Go.Eng

theorem u8_to {n : Int} (h0 : 0 ≤ n) (h1 : n < 256) : ((UInt8.ofNat n.toNat).toNat : Int) = n := by
  rw [UInt8.toNat_ofNat']
  have : n.toNat % 2 ^ 8 = n.toNat := Nat.mod_eq_of_lt (by omega)
  omega
theorem id7_dig (n : Int) : (id7 n).all isDig = true := by
  unfold id7 bytesA
  rw [List.all_map, List.all_eq_true]
  intro k _
  have h := dgI_range (idV n) k
  have e := u8_to (n := dgI (idV n) k) (by omega) (by omega)
  show isDig (UInt8.ofNat (dgI (idV n) k).toNat) = true
  unfold isDig
  rw [Bool.and_eq_true, decide_eq_true_eq, decide_eq_true_eq]
  omega
theorem idF_valid (n : Int) : validIDF (idF n) = true := by
  have hc := cdF_range (id7 n)
  have e := u8_to (n := 48 + (cdF (id7 n)).1) (by omega) (by omega)
  have hd : digitsF (idF n) 8 13 = true := by
    unfold digitsF
    rw [idF_len, Bool.and_eq_true]
    refine ⟨rfl, ?_⟩
    unfold idF
    rw [List.all_append, id7_dig, List.all_cons]
    unfold isDig
    rw [Bool.true_and, List.all_nil, Bool.and_true, Bool.and_eq_true, decide_eq_true_eq, decide_eq_true_eq]
    omega
  have ht : (idF n).take 7 = id7 n := by unfold idF; rw [← id7_len n]; exact List.take_left
  have hg : (idF n).getD 7 0 = UInt8.ofNat (48 + (cdF (id7 n)).1).toNat := by
    unfold idF
    rw [List.getD_eq_getElem?_getD, List.getElem?_append_right (by rw [id7_len]; exact Nat.le_refl _), id7_len]
    rfl
  unfold validIDF
  rw [hd, idF_len]
  show decide ((cdF ((idF n).take 7)).1 = (((idF n).getD 7 0).toNat : Int) - 48) = true
  rw [ht, hg, e, decide_eq_true_eq]
  omega
end Go.Eng
/- Rows of a scanner: the loops' states. -/
namespace Go.Eng

structure IT where
  c : Nat
  h : Nat → RW
  c0 : Nat
  left : List Nat
/-- What the tape's methods answer. -/
def outF (i : Int) : List UInt8 := List.getD [[111, 49], [111, 50], [112]] i.toNat []
def S_outlet : Spec
  | [.ptr 0 0], [.cells [.view sz n f, .int .i64 a] t] => some (.str (outF (nextV n (vInt f) a 3)), [(0, .cells [.view 1 n f, .int .i64 (a + 1)] 28)], t = 28 ∧ sz = 1 ∧ f = intRow (vInt f) ∧ (0 ≤ a ∧ a ≤ 4611686018427387000))
  | _, _ => none
def S_product : Spec
  | [.ptr 0 0], [.cells [.view sz n f, .int .i64 a] t] => some (.str (idF (nextV n (vInt f) a 4)), [(0, .cells [.view 1 n f, .int .i64 (a + 1)] 28)], t = 28 ∧ sz = 1 ∧ f = intRow (vInt f) ∧ (0 ≤ a ∧ a ≤ 4611686018427387000))
  | _, _ => none
end Go.Eng
/- Lists of messages merged: plain lists. -/
namespace Go.Eng

def ordM (a b : MG) : Int := orL [cmpS a.dev b.dev, cmpI a.seq b.seq, cmpI a.kind b.kind, cmpS a.v.o b.v.o, cmpS a.v.p b.v.p, cmpI a.v.per b.v.per, cmpI a.v.day b.v.day, cmpI a.v.st b.v.st, cmpI a.v.pr b.v.pr, cmpS a.v.rep b.v.rep,
  cmpS a.d.o b.d.o, cmpS a.d.p b.d.p, cmpI a.d.per b.d.per, cmpS a.d.dev b.d.dev, cmpI a.d.num b.d.num]
theorem ordM_preC : PreC ordM :=
  (cmpS_preC.comap MG.dev).or ((cmpI_preC.comap MG.seq).or ((cmpI_preC.comap MG.kind).or ((cmpS_preC.comap fun m : MG => m.v.o).or ((cmpS_preC.comap fun m : MG => m.v.p).or ((cmpI_preC.comap fun m : MG => m.v.per).or ((cmpI_preC.comap fun m : MG => m.v.day).or
  ((cmpI_preC.comap fun m : MG => m.v.st).or ((cmpI_preC.comap fun m : MG => m.v.pr).or ((cmpS_preC.comap fun m : MG => m.v.rep).or ((cmpS_preC.comap fun m : MG => m.d.o).or ((cmpS_preC.comap fun m : MG => m.d.p).or ((cmpI_preC.comap fun m : MG => m.d.per).or
  ((cmpS_preC.comap fun m : MG => m.d.dev).or ((cmpI_preC.comap fun m : MG => m.d.num).or .nil))))))))))))))
theorem ordM_zero {a b : MG} : ordM a b = 0 ↔ a = b := by
  simp only [ordM, orL_zero, cmpS_zero, cmpI_zero, show orL [] = 0 from rfl, and_true]
  constructor
  · rintro ⟨h1, h2, h3, h4, h5, h6, h7, h8, h9, h10, h11, h12, h13, h14, h15⟩
    obtain ⟨a1, a2, a3, ⟨b1, b2, b3, b4, b5, b6, b7⟩, c1, c2, c3, c4, c5⟩ := a
    obtain ⟨a1', a2', a3', ⟨b1', b2', b3', b4', b5', b6', b7'⟩, c1', c2', c3', c4', c5'⟩ := b
    simp only at h1 h2 h3 h4 h5 h6 h7 h8 h9 h10 h11 h12 h13 h14 h15
    subst h1; subst h2; subst h3; subst h4; subst h5; subst h6; subst h7; subst h8; subst h9; subst h10; subst h11; subst h12; subst h13; subst h14; subst h15
    rfl
  · rintro rfl
    simp

/-- One message put into its place, once. -/
def insM : List MG → MG → List MG
  | [], m => [m]
  | x :: l, m => bif decide (ordM m x < 0) then m :: x :: l else bif decide (ordM m x = 0) then x :: l else x :: insM l m
theorem insM_mem : ∀ {l : List MG} {m y : MG}, y ∈ insM l m ↔ y = m ∨ y ∈ l
  | [], m, y => by simp [insM]
  | x :: l, m, y => by
    rw [insM]
    by_cases h : ordM m x < 0
    · rw [decide_eq_true h]; simp
    · rw [decide_eq_false h]
      by_cases h' : ordM m x = 0
      · rw [decide_eq_true h']
        have := ordM_zero.1 h'
        subst this
        simp
      · rw [decide_eq_false h']
        simp only [cond_false, List.mem_cons, insM_mem (l := l)]
        grind
theorem insM_asc : ∀ {l : List MG} (m : MG), Asc ordM l → Asc ordM (insM l m)
  | [], m, _ => by simp [insM, Asc]
  | x :: l, m, h => by
    obtain ⟨h1, h2⟩ := List.pairwise_cons.1 h
    rw [insM]
    by_cases q : ordM m x < 0
    · rw [decide_eq_true q]
      refine List.pairwise_cons.2 ⟨fun y hy => ?_, h⟩
      rcases List.mem_cons.1 hy with rfl | hy
      · exact q
      · exact ordM_preC.lt_trans q (h1 y hy)
    · rw [decide_eq_false q]
      by_cases q' : ordM m x = 0
      · rw [decide_eq_true q']; exact h
      · rw [decide_eq_false q']
        refine List.pairwise_cons.2 ⟨fun y hy => ?_, insM_asc m h2⟩
        rcases insM_mem.1 hy with rfl | hy
        · have := ordM_preC.neg x y
          have := ordM_preC.neg y x
          omega
        · exact h1 y hy
def okM (m : MG) : Bool := decide (msgF m = 0)
def mrgF (l : List MG) : List MG := (l.filter okM).foldl insM []
theorem fold_ins : ∀ (l acc : List MG), Asc ordM acc → Asc ordM (l.foldl insM acc) ∧ ∀ y, y ∈ l.foldl insM acc ↔ y ∈ acc ∨ y ∈ l
  | [], acc, h => ⟨h, fun y => by simp⟩
  | x :: l, acc, h => by
    obtain ⟨h1, h2⟩ := fold_ins l (insM acc x) (insM_asc x h)
    refine ⟨h1, fun y => ?_⟩
    rw [List.foldl_cons, h2, insM_mem, List.mem_cons]
    grind
theorem mrgF_asc (l : List MG) : Asc ordM (mrgF l) := (fold_ins _ [] .nil).1
theorem mrgF_mem {l : List MG} {m : MG} : m ∈ mrgF l ↔ m ∈ l ∧ msgF m = 0 := by
  rw [mrgF, (fold_ins _ [] .nil).2]
  simp [okM]
theorem mrgF_uniq {l out : List MG} (h : Asc ordM out) (hm : ∀ m, m ∈ out ↔ m ∈ l ∧ msgF m = 0) : out = mrgF l :=
  Asc.uniq ordM_preC h (mrgF_asc l) fun m => by rw [hm, mrgF_mem]
theorem mrgF_congr {l l' : List MG} (h : ∀ m, m ∈ l ↔ m ∈ l') : mrgF l = mrgF l' :=
  mrgF_uniq (mrgF_asc l) fun m => by rw [mrgF_mem, h]
theorem insM_len : ∀ (l : List MG) (m : MG), (insM l m).length ≤ l.length + 1
  | [], m => by simp [insM]
  | x :: l, m => by
    rw [insM]
    cases decide (ordM m x < 0) with
    | true => simp
    | false =>
      cases decide (ordM m x = 0) with
      | true => simp
      | false => have := insM_len l m; simpa using this
theorem fold_len : ∀ (l acc : List MG), (l.foldl insM acc).length ≤ acc.length + l.length
  | [], acc => by simp
  | x :: l, acc => by
    rw [List.foldl_cons, List.length_cons]
    have := fold_len l (insM acc x)
    have := insM_len acc x
    omega
theorem mrgF_len (l : List MG) : (mrgF l).length ≤ l.length := by
  have := fold_len (l.filter okM) []
  have h2 := List.length_filter_le okM l
  unfold mrgF
  simp at this
  omega
end Go.Eng
/- Messages as cells; the order of messages. -/
namespace Go.Eng

def mgC (m : MG) : List AV := [.str m.dev, .int .i64 m.seq, .int .i64 m.kind, .str m.v.o, .str m.v.p, .int .i64 m.v.per, .int .i64 m.v.day, .int .i64 m.v.st, .int .i64 m.v.pr, .str m.v.rep, .str m.d.o, .str m.d.p, .int .i64 m.d.per, .str m.d.dev, .int .i64 m.d.num]
def mgRow (g : Nat → MG) (i : Nat) : List AV := [.str (g i).dev, .int .i64 (g i).seq, .int .i64 (g i).kind, .str (g i).v.o, .str (g i).v.p, .int .i64 (g i).v.per, .int .i64 (g i).v.day, .int .i64 (g i).v.st, .int .i64 (g i).v.pr, .str (g i).v.rep, .str (g i).d.o, .str (g i).d.p, .int .i64 (g i).d.per, .str (g i).d.dev, .int .i64 (g i).d.num]
def mgOf (f : Nat → List AV) (i : Nat) : MG := match f i with
  | [.str dev, .int .i64 seq, .int .i64 kind, .str o, .str p, .int .i64 per, .int .i64 day, .int .i64 st, .int .i64 pr, .str rep, .str o', .str p', .int .i64 per', .str dev', .int .i64 num] => ⟨dev, seq, kind, ⟨o, p, per, day, st, pr, rep⟩, ⟨o', p', per', dev', num⟩⟩
  | _ => default
def S_mcmp1 : Spec
  | [.str a, .str b], [] => some (.int .i64 (cmpS a b), [], True)
  | _, _ => none
def S_mcmp : Spec
  | [.agg [.str dev, .int .i64 seq, .int .i64 kind, .str o, .str p, .int .i64 per, .int .i64 day, .int .i64 st, .int .i64 pr, .str rep, .str o', .str p', .int .i64 per', .str dev', .int .i64 num], .agg [.str dev2, .int .i64 seq2, .int .i64 kind2, .str o2, .str p2, .int .i64 per2, .int .i64 day2, .int .i64 st2, .int .i64 pr2, .str rep2, .str o3, .str p3, .int .i64 per3, .str dev3, .int .i64 num2]], [] => some (.int .i64 (ordM ⟨dev, seq, kind, ⟨o, p, per, day, st, pr, rep⟩, ⟨o', p', per', dev', num⟩⟩ ⟨dev2, seq2, kind2, ⟨o2, p2, per2, day2, st2, pr2, rep2⟩, ⟨o3, p3, per3, dev3, num2⟩⟩), [], True)
  | _, _ => none
/-- Messages sorted. -/
def R_sortM : RSpec
  | [.own 0 n, .func 74 []], [.row t 15 m f fr], R => t = 56 ∧ fr = false ∧ n = m ∧ n ≤ 1000000 ∧ f = mgRow (mgOf f) ∧
      ∀ h : Nat → MG, (lst h n).Perm (lst (mgOf f) n) → (∀ i j, i < j → j < n → ¬ ordM (h j) (h i) < 0) → R (.tuple []) [(0, .row 56 15 n (mgRow h) false)]
  | _, _, _ => False
end Go.Eng
/- Grow and Concat at messages: what they answer. -/
namespace Go.Eng
def R_grow : RSpec
  | [.nil, .int .i64 n], [], R => 0 ≤ n ∧ n ≤ 1000000 ∧ (n = 0 → R .nil []) ∧ (0 < n → R (.own 0 0) [(0, .row 56 15 0 (fun _ => []) false)])
  | _, _, _ => False
end Go.Eng
/- Compact and DeleteFunc at messages: plain lists, the loops' states. -/
namespace Go.Eng

/-- Is the element not the one before it? -/
def eqM (a b : MG) : Bool := decide (a.dev = b.dev) && (decide (a.seq = b.seq) && (decide (a.kind = b.kind) && ((decide (a.v.o = b.v.o) && (decide (a.v.p = b.v.p) && (decide (a.v.per = b.v.per) && (decide (a.v.day = b.v.day) && (decide (a.v.st = b.v.st) && (decide (a.v.pr = b.v.pr) && decide (a.v.rep = b.v.rep))))))) && (decide (a.d.o = b.d.o) && (decide (a.d.p = b.d.p) && (decide (a.d.per = b.d.per) && (decide (a.d.dev = b.d.dev) && decide (a.d.num = b.d.num))))))))
def keepF (g : Nat → MG) (i : Nat) : Bool := decide (i = 0) || !eqM (g i) (g (i - 1))
/-- The elements without those that are the one before. -/
def ddL (g : Nat → MG) (m : Nat) : List MG := ((List.range m).filter (keepF g)).map g
def allK (g : Nat → MG) : Nat → Bool
  | 0 => true
  | k + 1 => allK g k && keepF g k
def R_cmpct : RSpec
  | [.own 0 n], [.row t 15 m f fr], R => t = 56 ∧ fr = false ∧ n = m ∧ n ≤ 1000000 ∧ f = mgRow (mgOf f) ∧
      ∀ (k : Nat) (h : Nat → MG), lst h k = ddL (mgOf f) n → R (.own 0 k) [(0, .row 56 15 k (mgRow h) false)]
  | _, _, _ => False
def S_cp (g : Nat → MG) (n k : Nat) : St := ⟨[(0, .own 0 n), (3, .int .i64 k)], [(0, .row 56 15 n (mgRow g) false)], 1, []⟩
def L_cp (g : Nat → MG) (n : Nat) : LSpec := fun st Q => canonIs te 1 [0, 3] st (S_cp g n 1) ∧ 2 ≤ n ∧ n ≤ 1000000 ∧
  (allK g n = true → Q (.exit 0) ⟨[(0, .own 0 n)], [(0, .row 56 15 n (mgRow g) false)], 1, []⟩) ∧
  ∀ (w : Nat) (h : Nat → MG), lst h w = ddL g n → Q .ret ⟨[(2, .own 0 w)], [(0, .row 56 15 w (mgRow h) false)], 1, []⟩
structure CI where
  k : Nat
  w : Nat
  h : Nat → MG
def S_ci (g : Nat → MG) (n k0 : Nat) (i : CI) : St := ⟨[(0, .own 0 n), (3, .int .i64 i.w), (4, .sub 0 15 k0 (n - k0)), (5, .int .i64 i.k)], [(0, .row 56 15 n (mgRow i.h) false)], 1, []⟩
def L_ci (g : Nat → MG) (n k0 : Nat) : LSpec := fun st Q => canonIs te 1 [0, 3, 4, 5] st (S_ci g n k0 ⟨1, k0, g⟩) ∧ (1 ≤ k0 ∧ k0 < n ∧ n ≤ 1000000) ∧ allK g k0 = true ∧ keepF g k0 = false ∧
  ∀ (w : Nat) (h : Nat → MG), w ≤ n → lst h w = ddL g n → Q (.exit 2) ⟨[(0, .own 0 n), (3, .int .i64 w)], [(0, .row 56 15 n (mgRow h) false)], 1, []⟩
end Go.Eng
/- Concat and Merge at messages: the loops' states. -/
namespace Go.Eng

def slRow (nn : Nat → Nat) (gg : Nat → Nat → MG) (i : Nat) : List AV := [.view 15 (nn i) (mgRow (gg i))]
def sumN (nn : Nat → Nat) : Nat → Nat
  | 0 => 0
  | k + 1 => sumN nn k + nn k
def catG (nn : Nat → Nat) (gg : Nat → Nat → MG) : Nat → Nat → MG
  | 0, _ => default
  | k + 1, i => if i < sumN nn k then catG nn gg k i else gg k (i - sumN nn k)
def R_concat : RSpec
  | [.own 0 c], [.row t 1 c' f fr], R => ∃ (nn : Nat → Nat) (gg : Nat → Nat → MG), t = 58 ∧ fr = false ∧ c = c' ∧ c ≤ 1000 ∧ (∀ i, i < c → slRow nn gg i = f i) ∧ sumN nn c ≤ 1000000 ∧
      R (.view 15 (sumN nn c) (mgRow (catG nn gg c))) [(0, .row 58 1 c (slRow nn gg) false)]
  | _, _, _ => False
def S_c1 (nn : Nat → Nat) (gg : Nat → Nat → MG) (c k : Nat) : St := ⟨[(0, .own 0 c), (3, .int .i64 (sumN nn k)), (9, .own 0 c), (10, .int .i64 c), (11, .int .i64 k)], [(0, .row 58 1 c (slRow nn gg) false)], 1, []⟩
def L_c1 (nn : Nat → Nat) (gg : Nat → Nat → MG) (c : Nat) : LSpec := fun st Q => canonIs te 1 [0, 3, 9, 10, 11] st (S_c1 nn gg c 0) ∧ c ≤ 1000 ∧ sumN nn c ≤ 1000000 ∧
  Q (.exit 0) ⟨[(0, .own 0 c), (3, .int .i64 (sumN nn c))], [(0, .row 58 1 c (slRow nn gg) false)], 1, []⟩
def S_c2 (nn : Nat → Nat) (gg : Nat → Nat → MG) (c k : Nat) : St := ⟨[(6, .own 1 (sumN nn k)), (25, .own 0 c), (26, .int .i64 c), (27, .int .i64 k)], [(0, .row 58 1 c (slRow nn gg) false), (1, .row 56 15 (sumN nn k) (mgRow (catG nn gg k)) false)], 2, []⟩
def L_c2 (nn : Nat → Nat) (gg : Nat → Nat → MG) (c : Nat) : LSpec := fun st Q => canonIs te 1 [6, 25, 26, 27] (ownNil 6 56 15 st) (S_c2 nn gg c 0) ∧ c ≤ 1000 ∧ sumN nn c ≤ 1000000 ∧
  Q (.exit 2) ⟨[(6, .own 1 (sumN nn c))], [(0, .row 58 1 c (slRow nn gg) false), (1, .row 56 15 (sumN nn c) (mgRow (catG nn gg c)) false)], 2, []⟩
end Go.Eng
/- Merge at messages: what it answers. -/
namespace Go.Eng

def atM (L : List MG) (i : Nat) : MG := L.getD i default
def flL (g : Nat → MG) (k : Nat) : List MG := (lst g k).filter okM
structure MG.Sm (m : MG) : Prop where
  a : m.dev.length < 4294967281
  b : m.v.o.length < 4294967281
  c : m.d.o.length < 4294967281
  d : m.d.dev.length < 4294967281
def nn2 (n m i : Nat) : Nat := if i = 0 then n else m
def gg2 (g h : Nat → MG) (i : Nat) : Nat → MG := if i = 0 then g else h
def mrgL (g : Nat → MG) (n : Nat) (h : Nat → MG) (m : Nat) : List MG := mrgF (lst g n ++ lst h m)
def S_mg (g : Nat → MG) (n k : Nat) : St := ⟨[(5, .own 0 (flL g k).length), (11, .view 15 n (mgRow g)), (12, .int .i64 n), (13, .int .i64 k)], [(0, .row 56 15 (flL g k).length (mgRow (atM (flL g k))) false)], 1, []⟩
def L_mg (g : Nat → MG) (n : Nat) : LSpec := fun st Q => canonIs te 0 [5, 11, 12, 13] (ownNil 5 56 15 st) (S_mg g n 0) ∧ n ≤ 200000 ∧ (∀ i, i < n → (g i).Sm) ∧
  Q (.exit 0) ⟨[(5, .own 0 (flL g n).length)], [(0, .row 56 15 (flL g n).length (mgRow (atM (flL g n))) false)], 1, []⟩
def S_mrg : Spec
  | [.view 15 n f, .view 15 m h], [] => some (.own 0 (mrgL (mgOf f) n (mgOf h) m).length, [(0, .row 56 15 (mrgL (mgOf f) n (mgOf h) m).length (mgRow (atM (mrgL (mgOf f) n (mgOf h) m))) false)],
      n ≤ 100000 ∧ m ≤ 100000 ∧ f = mgRow (mgOf f) ∧ h = mgRow (mgOf h) ∧ (∀ i, i < n → (mgOf f i).Sm) ∧ ∀ i, i < m → (mgOf h i).Sm)
  | _, _ => none
end Go.Eng
/- Messages of a tape: what the tape's methods answer. -/
namespace Go.Eng

def devF (i : Int) : List UInt8 := List.getD [[97], [98], [99]] i.toNat []
def S_device : Spec
  | [.ptr 0 0], [.cells [.view sz n f, .int .i64 a] t] => some (.str (devF (nextV n (vInt f) a 3)), [(0, .cells [.view 1 n f, .int .i64 (a + 1)] 28)], t = 28 ∧ sz = 1 ∧ f = intRow (vInt f) ∧ (0 ≤ a ∧ a ≤ 4611686018427387000))
  | _, _ => none
/-- A visit of a tape: right, with a short outlet. -/
structure VT.Made (x : VT) : Prop where
  ok : visF x = true
  o : x.o.length ≤ 2
def R_visit : RSpec
  | [.ptr 0 0], [.cells [.view sz n f, .int .i64 a] t], R => t = 28 ∧ sz = 1 ∧ f = intRow (vInt f) ∧ (0 ≤ a ∧ a ≤ 4611686018427386000) ∧
      ∀ (x : VT) (a' : Int), x.Made → (a ≤ a' ∧ a' ≤ a + 7) →
      R (.agg [.str x.o, .str x.p, .int .i64 x.per, .int .i64 x.day, .int .i64 x.st, .int .i64 x.pr, .str x.rep]) [(0, .cells [.view 1 n f, .int .i64 a'] 28)]
  | _, _, _ => False
/-- A message of a tape: right, with short texts. -/
structure MG.Made (m : MG) : Prop where
  ok : msgF m = 0
  dev : m.dev.length ≤ 1
  o : m.v.o.length ≤ 2
  o' : m.d.o.length ≤ 2
  dd : m.d.dev.length ≤ 1
def R_mmsg : RSpec
  | [.ptr 0 0], [.cells [.view sz n f, .int .i64 a] t], R => t = 28 ∧ sz = 1 ∧ f = intRow (vInt f) ∧ (0 ≤ a ∧ a ≤ 4611686018427385000) ∧
      ∀ (m : MG) (a' : Int), m.Made → (a ≤ a' ∧ a' ≤ a + 10) →
      R (.agg [.str m.dev, .int .i64 m.seq, .int .i64 m.kind, .str m.v.o, .str m.v.p, .int .i64 m.v.per, .int .i64 m.v.day, .int .i64 m.v.st, .int .i64 m.v.pr, .str m.v.rep, .str m.d.o, .str m.d.p, .int .i64 m.d.per, .str m.d.dev, .int .i64 m.d.num]) [(0, .cells [.view 1 n f, .int .i64 a'] 28)]
  | _, _, _ => False
theorem idF4 : ∀ i, i < 4 → ¬ idF 4 = idF (i : Nat) := by decide +kernel
theorem devF_ok : ∀ i, i < 3 → nameF (List.getD [[97], [98], [99]] i []) = true ∧ (List.getD [[97], [98], [99]] i ([] : List UInt8)).length ≤ 1 := by decide +kernel
end Go.Eng
/- How often a mark stands in a list: plain lists. -/
namespace Go.Eng

def mk2 (m : MG) : List UInt8 × Int := (m.dev, m.seq)
def addC : List ((List UInt8 × Int) × Int) → List UInt8 × Int → List ((List UInt8 × Int) × Int)
  | [], p => [(p, 1)]
  | x :: l, p => bif decide (x.1.1 = p.1) && decide (x.1.2 = p.2) then (p, x.2 + 1) :: l else x :: addC l p
def getC : List ((List UInt8 × Int) × Int) → List UInt8 × Int → Int
  | [], _ => 0
  | x :: l, p => bif decide (x.1.1 = p.1) && decide (x.1.2 = p.2) then x.2 else getC l p
def cntL (g : Nat → MG) : Nat → List ((List UInt8 × Int) × Int)
  | 0 => []
  | k + 1 => addC (cntL g k) (mk2 (g k))
/-- How many of the first k have the mark. -/
def numC (g : Nat → MG) (p : List UInt8 × Int) : Nat → Int
  | 0 => 0
  | k + 1 => numC g p k + bif decide ((mk2 (g k)).1 = p.1) && decide ((mk2 (g k)).2 = p.2) then 1 else 0
theorem same2 {a b : List UInt8 × Int} : (decide (a.1 = b.1) && decide (a.2 = b.2)) = true ↔ a = b := by
  simp [Prod.ext_iff]
theorem getC_addC (q p : List UInt8 × Int) : ∀ L, getC (addC L p) q = getC L q + bif decide (p.1 = q.1) && decide (p.2 = q.2) then 1 else 0
  | [] => by
    show (bif decide (p.1 = q.1) && decide (p.2 = q.2) then (1 : Int) else 0) = 0 + bif decide (p.1 = q.1) && decide (p.2 = q.2) then 1 else 0
    generalize (decide (p.1 = q.1) && decide (p.2 = q.2)) = b
    cases b <;> rfl
  | x :: l => by
    have ih := getC_addC q p l
    rw [addC]
    cases h : decide (x.1.1 = p.1) && decide (x.1.2 = p.2) with
    | true =>
      have e := same2.1 h
      show getC ((p, x.2 + 1) :: l) q = getC (x :: l) q + _
      rw [getC, getC, e]
      cases h2 : decide (p.1 = q.1) && decide (p.2 = q.2) with
      | true => rfl
      | false => show getC l q = getC l q + 0; omega
    | false =>
      show getC (x :: addC l p) q = getC (x :: l) q + _
      rw [getC, getC]
      cases h2 : decide (x.1.1 = q.1) && decide (x.1.2 = q.2) with
      | true =>
        have e := same2.1 h2
        have : (decide (p.1 = q.1) && decide (p.2 = q.2)) = false := by
          cases r : decide (p.1 = q.1) && decide (p.2 = q.2) with
          | false => rfl
          | true => rw [e, ← same2.1 r] at h; simp at h
        rw [this]; show x.2 = x.2 + 0; omega
      | false => exact ih
theorem getC_cntL (g : Nat → MG) (q : List UInt8 × Int) : ∀ k, getC (cntL g k) q = numC g q k
  | 0 => rfl
  | k + 1 => by rw [cntL, getC_addC, getC_cntL g q k, numC]
theorem numC_le (g : Nat → MG) (q : List UInt8 × Int) : ∀ k, 0 ≤ numC g q k ∧ numC g q k ≤ k
  | 0 => by simp [numC]
  | k + 1 => by
    have := numC_le g q k
    rw [numC]
    cases decide ((mk2 (g k)).1 = q.1) && decide ((mk2 (g k)).2 = q.2) <;> simp <;> omega
theorem addC_keys (p : List UInt8 × Int) : ∀ (L : List ((List UInt8 × Int) × Int)) (x : List UInt8 × Int), x ∈ (addC L p).map Prod.fst → x ∈ L.map Prod.fst ∨ x = p
  | [], x, h => by simpa [addC] using h
  | y :: l, x, h => by
    rw [addC] at h
    cases e : decide (y.1.1 = p.1) && decide (y.1.2 = p.2) with
    | true =>
      rw [e] at h
      rcases List.mem_cons.1 h with h | h
      · exact .inr h
      · exact .inl (List.mem_cons_of_mem _ h)
    | false =>
      rw [e] at h
      rcases List.mem_cons.1 h with h | h
      · exact .inl (by rw [h]; exact List.mem_cons_self ..)
      · rcases addC_keys p l x h with h | h
        · exact .inl (List.mem_cons_of_mem _ h)
        · exact .inr h
theorem addC_nodup (p : List UInt8 × Int) : ∀ {L : List ((List UInt8 × Int) × Int)}, (L.map Prod.fst).Nodup → ((addC L p).map Prod.fst).Nodup
  | [], _ => by simp [addC]
  | y :: l, h => by
    obtain ⟨h1, h2⟩ := List.nodup_cons.1 (show (y.1 :: l.map Prod.fst).Nodup from h)
    rw [addC]
    cases e : decide (y.1.1 = p.1) && decide (y.1.2 = p.2) with
    | true =>
      have e' := same2.1 e
      exact List.nodup_cons.2 ⟨by rw [← e']; exact h1, h2⟩
    | false =>
      refine List.nodup_cons.2 ⟨fun q => ?_, addC_nodup p h2⟩
      rcases addC_keys p l y.1 q with q | q
      · exact h1 q
      · rw [q] at e; simp at e
theorem cntL_nodup (g : Nat → MG) : ∀ k, ((cntL g k).map Prod.fst).Nodup
  | 0 => by simp [cntL]
  | k + 1 => addC_nodup _ (cntL_nodup g k)
end Go.Eng
/- counts: the loop's states. -/
namespace Go.Eng

def entM (L : List ((List UInt8 × Int) × Int)) : List (AV × AV) := L.map fun x => (.agg [.str x.1.1, .int .i64 x.1.2], .int .i64 x.2)
def S_mark : Spec
  | [.agg [.str dev, .int .i64 seq, .int .i64 _, .str _, .str _, .int .i64 _, .int .i64 _, .int .i64 _, .int .i64 _, .str _, .str _, .str _, .int .i64 _, .str _, .int .i64 _]], [] => some (.agg [.str dev, .int .i64 seq], [], True)
  | _, _ => none
def S_counts : Spec
  | [.own 0 n], [.row t 15 m f fr] => some (.map 1, [(0, .row 56 15 n f false), (1, .amap (entM (cntL (mgOf f) n)))], t = 56 ∧ fr = false ∧ n = m ∧ n ≤ 1000000 ∧ f = mgRow (mgOf f))
  | _, _ => none
def S_ct (g : Nat → MG) (n k : Nat) : St := ⟨[(3, .map 1), (7, .own 0 n), (8, .int .i64 n), (9, .int .i64 k)], [(0, .row 56 15 n (mgRow g) false), (1, .amap (entM (cntL g k)))], 2, []⟩
def L_ct (g : Nat → MG) (n : Nat) : LSpec := fun st Q => canonIs te 1 [3, 7, 8, 9] st (S_ct g n 0) ∧ n ≤ 1000000 ∧ Q (.exit 0) ⟨[(3, .map 1)], [(0, .row 56 15 n (mgRow g) false), (1, .amap (entM (cntL g n)))], 2, []⟩
def S_c5 (L : List ((List UInt8 × Int) × Int)) (x : MG) (g : Nat → MG) (n k : Nat) : St := ⟨[(3, .map 1), (5, .ptr 2 0), (7, .own 0 n), (8, .int .i64 n), (9, .int .i64 k)], [(0, .row 56 15 n (mgRow g) false), (1, .amap (entM L)),
  (2, .cells [.str x.dev, .int .i64 x.seq, .int .i64 x.kind, .str x.v.o, .str x.v.p, .int .i64 x.v.per, .int .i64 x.v.day, .int .i64 x.v.st, .int .i64 x.v.pr, .str x.v.rep, .str x.d.o, .str x.d.p, .int .i64 x.d.per, .str x.d.dev, .int .i64 x.d.num] 56)], 3, []⟩
def L_c5 (L : List ((List UInt8 × Int) × Int)) (x : MG) (g : Nat → MG) (n k : Nat) : LSpec := fun st Q => canonIs te 1 [3, 5, 7, 8, 9] st (S_c5 L x g n k) ∧ (L.map Prod.fst).Nodup ∧ inR .i64 (getC L (mk2 x) + 1) ∧
  Q .normal (S_c5 (addC L (mk2 x)) x g n k)
end Go.Eng
/- DeleteFunc and IndexFunc at messages: plain lists, the loops' states. -/
namespace Go.Eng

def fstB (q : Nat → Bool) : Nat → Nat
  | 0 => 0
  | k + 1 => bif decide (fstB q k < k) then fstB q k else (bif q k then k else k + 1)
def ixB (q : Nat → Bool) (n : Nat) : Int := bif decide (fstB q n < n) then (fstB q n : Int) else -1
theorem fstB_le (q : Nat → Bool) : ∀ k, fstB q k ≤ k
  | 0 => Nat.le_refl _
  | k + 1 => by
    have ih := fstB_le q k
    rw [fstB]
    cases decide (fstB q k < k) with
    | true => show fstB q k ≤ k + 1; omega
    | false => cases q k with
      | true => show k ≤ k + 1; omega
      | false => exact Nat.le_refl _
theorem fstB_not {q : Nat → Bool} {k : Nat} (h : fstB q k = k) (hk : q k = false) : fstB q (k + 1) = k + 1 := by
  rw [fstB, decide_eq_false (show ¬ fstB q k < k by omega), hk]; rfl
theorem fstB_at {q : Nat → Bool} {k : Nat} (h : fstB q k = k) (hk : q k = true) : ∀ n, k < n → fstB q n = k
  | 0, hn => absurd hn (Nat.not_lt_zero _)
  | n + 1, hn => by
    rw [fstB]
    by_cases e : k = n
    · subst e
      rw [decide_eq_false (show ¬ fstB q k < k by omega), hk]; rfl
    · have ih := fstB_at h hk n (by omega)
      rw [ih, decide_eq_true (show k < n by omega)]; rfl
theorem fstB_spec (q : Nat → Bool) : ∀ n, (∀ j, j < fstB q n → q j = false) ∧ (fstB q n < n → q (fstB q n) = true)
  | 0 => ⟨fun j hj => absurd hj (Nat.not_lt_zero _), fun h => absurd h (Nat.not_lt_zero _)⟩
  | n + 1 => by
    obtain ⟨h1, h2⟩ := fstB_spec q n
    have hle := fstB_le q n
    by_cases h : fstB q n < n
    · have e : fstB q (n + 1) = fstB q n := by rw [fstB, decide_eq_true h]; rfl
      rw [e]
      exact ⟨h1, fun _ => h2 h⟩
    · have h0 : fstB q n = n := by omega
      rw [h0] at h1
      cases hq : q n with
      | true =>
        have e : fstB q (n + 1) = n := by rw [fstB, decide_eq_false h, hq]; rfl
        rw [e]
        exact ⟨h1, fun _ => hq⟩
      | false =>
        have e : fstB q (n + 1) = n + 1 := fstB_not h0 hq
        rw [e]
        refine ⟨fun j hj => ?_, fun h => absurd h (Nat.lt_irrefl _)⟩
        by_cases q' : j = n
        · rw [q']; exact hq
        · exact h1 j (by omega)
/-- How often the map says that the message's mark stands. -/
def cntE (es : List (AV × AV)) (m : MG) : Int := intOf ((mget es (.agg [.str m.dev, .int .i64 m.seq])).getD (.int .i64 0))
def delF (es : List (AV × AV)) (m : MG) : Bool := decide (1 < cntE es m)
def EsOK (es : List (AV × AV)) : Prop := ∃ L : List ((List UInt8 × Int) × Int), es = entM L ∧ (L.map Prod.fst).Nodup
def S_right1 : Spec
  | [.agg [.str dev, .int .i64 seq, .int .i64 kind, .str o, .str p, .int .i64 per, .int .i64 day, .int .i64 st, .int .i64 pr, .str rep, .str o', .str p', .int .i64 per', .str dev', .int .i64 num], .ptr 0 0], [.cells [.map 1] t, .amap es] =>
      some (.bool (delF es ⟨dev, seq, kind, ⟨o, p, per, day, st, pr, rep⟩, ⟨o', p', per', dev', num⟩⟩), [(0, .cells [.map 1] t), (1, .amap es)], t = 131 ∧ EsOK es)
  | _, _ => none
def S_ixR : Spec
  | [.own 0 n, .func 108 [.ptr 1 0]], [.row t 15 m f fr, .cells [.map 2] t2, .amap es] =>
      some (.int .i64 (ixB (fun i => delF es (mgOf f i)) n), [(0, .row 56 15 n f false), (1, .cells [.map 2] 131), (2, .amap es)], t = 56 ∧ t2 = 131 ∧ fr = false ∧ n = m ∧ n ≤ 1000000 ∧ f = mgRow (mgOf f) ∧ EsOK es)
  | _, _ => none
def S_ixr (es : List (AV × AV)) (g : Nat → MG) (n k : Nat) : St := ⟨[(0, .own 0 n), (1, .func 108 [.ptr 1 0]), (7, .int .i64 n), (8, .int .i64 k)], [(0, .row 56 15 n (mgRow g) false), (1, .cells [.map 2] 131), (2, .amap es)], 3, []⟩
def L_ixr (es : List (AV × AV)) (g : Nat → MG) (n : Nat) : LSpec := fun st Q => canonIs te 3 [0, 1, 7, 8] st (S_ixr es g n 0) ∧ n ≤ 1000000 ∧ EsOK es ∧
  condP (decide (fstB (fun i => delF es (g i)) n < n)) (Q .ret ⟨[(4, .int .i64 (fstB (fun i => delF es (g i)) n))], [(0, .row 56 15 n (mgRow g) false), (1, .cells [.map 2] 131), (2, .amap es)], 3, []⟩)
    (Q (.exit 0) ⟨[], [(0, .row 56 15 n (mgRow g) false), (1, .cells [.map 2] 131), (2, .amap es)], 3, []⟩)
def kpL (es : List (AV × AV)) (g : Nat → MG) (n : Nat) : List MG := (lst g n).filter fun x => !delF es x
def R_delF : RSpec
  | [.own 0 n, .func 108 [.ptr 1 0]], [.row t 15 m f fr, .cells [.map 2] t2, .amap es], R => t = 56 ∧ t2 = 131 ∧ fr = false ∧ n = m ∧ n ≤ 1000000 ∧ f = mgRow (mgOf f) ∧ EsOK es ∧
      ∀ (k : Nat) (h : Nat → MG), lst h k = kpL es (mgOf f) n → R (.own 0 k) [(0, .row 56 15 k (mgRow h) false), (1, .cells [.map 2] 131), (2, .amap es)]
  | _, _, _ => False
def S_df (es : List (AV × AV)) (n : Nat) (i : CI) : St := ⟨[(0, .own 0 n), (1, .func 108 [.ptr 1 0]), (5, .int .i64 i.w), (6, .int .i64 i.k)], [(0, .row 56 15 n (mgRow i.h) false), (1, .cells [.map 2] 131), (2, .amap es)], 3, []⟩
def L_df (es : List (AV × AV)) (g : Nat → MG) (n i0 : Nat) : LSpec := fun st Q => canonIs te 3 [0, 1, 5, 6] st (S_df es n ⟨i0 + 1, i0, g⟩) ∧ (i0 < n ∧ n ≤ 1000000) ∧ EsOK es ∧ (∀ j, j < i0 → delF es (g j) = false) ∧ delF es (g i0) = true ∧
  ∀ (w : Nat) (h : Nat → MG), w ≤ n → lst h w = kpL es g n → Q (.exit 0) ⟨[(0, .own 0 n), (5, .int .i64 w)], [(0, .row 56 15 n (mgRow h) false), (1, .cells [.map 2] 131), (2, .amap es)], 3, []⟩
end Go.Eng
/- right: what it answers. -/
namespace Go.Eng

def noM : Nat → MG := fun _ => default
/-- The messages whose mark stands once. -/
def rightL (g : Nat → MG) (n : Nat) : List MG := (mrgL g n noM 0).filter fun x => !decide (1 < numC (atM (mrgL g n noM 0)) (mk2 x) (mrgL g n noM 0).length)
def S_mrgN : Spec
  | [.view 15 n f, .nil], [] => some (.own 0 (mrgL (mgOf f) n noM 0).length, [(0, .row 56 15 (mrgL (mgOf f) n noM 0).length (mgRow (atM (mrgL (mgOf f) n noM 0))) false)],
      n ≤ 100000 ∧ f = mgRow (mgOf f) ∧ ∀ i, i < n → (mgOf f i).Sm)
  | _, _ => none
def S_right : Spec
  | [.view 15 n f], [] => some (.view 15 (rightL (mgOf f) n).length (mgRow (atM (rightL (mgOf f) n))), [], n ≤ 100000 ∧ f = mgRow (mgOf f) ∧ ∀ i, i < n → (mgOf f i).Sm)
  | _, _ => none
end Go.Eng
/- candidates: the loop's states. -/
namespace Go.Eng

def selF (o p : List UInt8) (per : Int) (m : MG) : Bool := decide (m.kind = 1) && (decide (m.v.o = o) && (decide (m.v.p = p) && decide (m.v.per = per)))
/-- One message more; of each device the last one stays. -/
def stpC (L : List MG) (m : MG) : List MG := bif decide (0 < L.length) && decide ((atM L (L.length - 1)).dev = m.dev) then L.take (L.length - 1) ++ [m] else L ++ [m]
def canL (o p : List UInt8) (per : Int) (g : Nat → MG) : Nat → List MG
  | 0 => []
  | k + 1 => bif selF o p per (g k) then stpC (canL o p per g k) (g k) else canL o p per g k
def S_cand : Spec
  | [.view 15 n f, .str o, .str p, .int .i64 per], [] => some (.view 15 (canL o p per (mgOf f) n).length (mgRow (atM (canL o p per (mgOf f) n))), [], n ≤ 1000000 ∧ f = mgRow (mgOf f))
  | _, _ => none
def S_cnd (o p : List UInt8) (per : Int) (g : Nat → MG) (n k : Nat) : St := ⟨[(1, .str o), (2, .str p), (3, .int .i64 per), (9, .own 0 (canL o p per g k).length), (13, .view 15 n (mgRow g)), (14, .int .i64 n), (15, .int .i64 k)], [(0, .row 56 15 (canL o p per g k).length (mgRow (atM (canL o p per g k))) false)], 1, []⟩
def L_cnd (o p : List UInt8) (per : Int) (g : Nat → MG) (n : Nat) : LSpec := fun st Q => canonIs te 0 [1, 2, 3, 9, 13, 14, 15] (ownNil 9 56 15 st) (S_cnd o p per g n 0) ∧ n ≤ 1000000 ∧
  Q (.exit 0) ⟨[(9, .own 0 (canL o p per g n).length)], [(0, .row 56 15 (canL o p per g n).length (mgRow (atM (canL o p per g n))) false)], 1, []⟩
end Go.Eng
/- Resolve's closures: the loops' states. -/
namespace Go.Eng

/-- Does the message tell another state, price or replacement than the visit? -/
def difF (x : VT) (m : MG) : Bool := !decide (m.v.st = x.st) || (!decide (m.v.pr = x.pr) || !decide (m.v.rep = x.rep))
/-- Has the message the mark that the decision names? -/
def namF (x : DT) (m : MG) : Bool := decide (m.dev = x.dev) && decide (m.seq = x.num)
def S_rs1 : Spec
  | [.agg [.str dev, .int .i64 seq, .int .i64 kind, .str o, .str p, .int .i64 per, .int .i64 day, .int .i64 st, .int .i64 pr, .str rep, .str o', .str p', .int .i64 per', .str dev', .int .i64 num], .ptr 0 0], [.cells [.str xo, .str xp, .int .i64 xper, .int .i64 xday, .int .i64 xst, .int .i64 xpr, .str xrep] t] => some (.bool (difF ⟨xo, xp, xper, xday, xst, xpr, xrep⟩ ⟨dev, seq, kind, ⟨o, p, per, day, st, pr, rep⟩, ⟨o', p', per', dev', num⟩⟩), [(0, .cells [.str xo, .str xp, .int .i64 xper, .int .i64 xday, .int .i64 xst, .int .i64 xpr, .str xrep] 52)], t = 52)
  | _, _ => none
def S_ix1 : Spec
  | [.view 15 n f, .func 80 [.ptr 0 0]], [.cells [.str xo, .str xp, .int .i64 xper, .int .i64 xday, .int .i64 xst, .int .i64 xpr, .str xrep] t] => some (.int .i64 (ixB (fun i => difF ⟨xo, xp, xper, xday, xst, xpr, xrep⟩ (mgOf f i)) n), [(0, .cells [.str xo, .str xp, .int .i64 xper, .int .i64 xday, .int .i64 xst, .int .i64 xpr, .str xrep] 52)], t = 52 ∧ n ≤ 1000000 ∧ f = mgRow (mgOf f))
  | _, _ => none
def S_ixs1 (x : VT) (g : Nat → MG) (n k : Nat) : St := ⟨[(0, .view 15 n (mgRow g)), (1, .func 80 [.ptr 0 0]), (7, .int .i64 n), (8, .int .i64 k)], [(0, .cells [.str x.o, .str x.p, .int .i64 x.per, .int .i64 x.day, .int .i64 x.st, .int .i64 x.pr, .str x.rep] 52)], 1, []⟩
def L_ixs1 (x : VT) (g : Nat → MG) (n : Nat) : LSpec := fun st Q => canonIs te 1 [0, 1, 7, 8] st (S_ixs1 x g n 0) ∧ n ≤ 1000000 ∧
  condP (decide (fstB (fun i => difF x (g i)) n < n)) (Q .ret ⟨[(4, .int .i64 (fstB (fun i => difF x (g i)) n))], [(0, .cells [.str x.o, .str x.p, .int .i64 x.per, .int .i64 x.day, .int .i64 x.st, .int .i64 x.pr, .str x.rep] 52)], 1, []⟩) (Q (.exit 0) ⟨[], [(0, .cells [.str x.o, .str x.p, .int .i64 x.per, .int .i64 x.day, .int .i64 x.st, .int .i64 x.pr, .str x.rep] 52)], 1, []⟩)
def S_rs2 : Spec
  | [.agg [.str dev, .int .i64 seq, .int .i64 kind, .str o, .str p, .int .i64 per, .int .i64 day, .int .i64 st, .int .i64 pr, .str rep, .str o', .str p', .int .i64 per', .str dev', .int .i64 num], .ptr 0 0], [.cells [.str xo, .str xp, .int .i64 xper, .str xdev, .int .i64 xnum] t] => some (.bool (namF ⟨xo, xp, xper, xdev, xnum⟩ ⟨dev, seq, kind, ⟨o, p, per, day, st, pr, rep⟩, ⟨o', p', per', dev', num⟩⟩), [(0, .cells [.str xo, .str xp, .int .i64 xper, .str xdev, .int .i64 xnum] 54)], t = 54)
  | _, _ => none
def S_ix2 : Spec
  | [.view 15 n f, .func 82 [.ptr 0 0]], [.cells [.str xo, .str xp, .int .i64 xper, .str xdev, .int .i64 xnum] t] => some (.int .i64 (ixB (fun i => namF ⟨xo, xp, xper, xdev, xnum⟩ (mgOf f i)) n), [(0, .cells [.str xo, .str xp, .int .i64 xper, .str xdev, .int .i64 xnum] 54)], t = 54 ∧ n ≤ 1000000 ∧ f = mgRow (mgOf f))
  | _, _ => none
def S_ixs2 (x : DT) (g : Nat → MG) (n k : Nat) : St := ⟨[(0, .view 15 n (mgRow g)), (1, .func 82 [.ptr 0 0]), (7, .int .i64 n), (8, .int .i64 k)], [(0, .cells [.str x.o, .str x.p, .int .i64 x.per, .str x.dev, .int .i64 x.num] 54)], 1, []⟩
def L_ixs2 (x : DT) (g : Nat → MG) (n : Nat) : LSpec := fun st Q => canonIs te 1 [0, 1, 7, 8] st (S_ixs2 x g n 0) ∧ n ≤ 1000000 ∧
  condP (decide (fstB (fun i => namF x (g i)) n < n)) (Q .ret ⟨[(4, .int .i64 (fstB (fun i => namF x (g i)) n))], [(0, .cells [.str x.o, .str x.p, .int .i64 x.per, .str x.dev, .int .i64 x.num] 54)], 1, []⟩) (Q (.exit 0) ⟨[], [(0, .cells [.str x.o, .str x.p, .int .i64 x.per, .str x.dev, .int .i64 x.num] 54)], 1, []⟩)
def S_cf1 : Spec
  | [.view 15 n f, .func 80 [.ptr 0 0]], [.cells [.str xo, .str xp, .int .i64 xper, .int .i64 xday, .int .i64 xst, .int .i64 xpr, .str xrep] t] => some (.bool (decide (0 ≤ ixB (fun i => difF ⟨xo, xp, xper, xday, xst, xpr, xrep⟩ (mgOf f i)) n)), [(0, .cells [.str xo, .str xp, .int .i64 xper, .int .i64 xday, .int .i64 xst, .int .i64 xpr, .str xrep] 52)], t = 52 ∧ n ≤ 1000000 ∧ f = mgRow (mgOf f))
  | _, _ => none
end Go.Eng
/- Resolve: the loop's states. -/
namespace Go.Eng

def zeroVT : VT := ⟨[], [], 0, 0, 0, 0, []⟩
def decOK (o p : List UInt8) (per q : Int) (m : MG) : Bool := decide (m.kind = 2) && (decide (m.d.o = o) && (decide (m.d.p = p) && (decide (m.d.per = per) && !decide (m.seq < q))))
/-- What the decisions say so far: the visit kept, the decision's number. -/
def dcF (o p : List UInt8) (per : Int) (C : List MG) (g : Nat → MG) : Nat → VT × Int
  | 0 => (zeroVT, -1)
  | k + 1 => bif decOK o p per (dcF o p per C g k).2 (g k) && decide (fstB (fun i => namF (g k).d (atM C i)) C.length < C.length) then ((atM C (fstB (fun i => namF (g k).d (atM C i)) C.length)).v, (g k).seq) else dcF o p per C g k
def resR (o p : List UInt8) (per : Int) (R C : List MG) : VT × Int :=
  bif decide (C.length = 0) then (zeroVT, 0) else bif decide (0 ≤ ixB (fun i => difF (atM C 0).v (atM C i)) C.length) then
    (bif decide ((dcF o p per C (atM R) R.length).2 < 0) then (zeroVT, 2) else ((dcF o p per C (atM R) R.length).1, 1)) else ((atM C 0).v, 1)
def resF (g : Nat → MG) (n : Nat) (o p : List UInt8) (per : Int) : VT × Int := resR o p per (rightL g n) (canL o p per (atM (rightL g n)) (rightL g n).length)
def S_resolve : Spec
  | [.view 15 n f, .str o, .str p, .int .i64 per], [] =>
      some (.tuple [.agg [.str (resF (mgOf f) n o p per).1.o, .str (resF (mgOf f) n o p per).1.p, .int .i64 (resF (mgOf f) n o p per).1.per, .int .i64 (resF (mgOf f) n o p per).1.day, .int .i64 (resF (mgOf f) n o p per).1.st, .int .i64 (resF (mgOf f) n o p per).1.pr, .str (resF (mgOf f) n o p per).1.rep], .int .i64 (resF (mgOf f) n o p per).2], [],
        n ≤ 100000 ∧ f = mgRow (mgOf f) ∧ ∀ i, i < n → (mgOf f i).Sm)
  | _, _ => none
def S_rl (o p : List UInt8) (per : Int) (C R : List MG) (k : Nat) : St := ⟨[(1, .str o), (2, .str p), (3, .int .i64 per), (8, .ptr 0 0), (11, .view 15 C.length (mgRow (atM C))), (13, .ptr 1 0), (14, .int .i64 (dcF o p per C (atM R) k).2), (40, .view 15 R.length (mgRow (atM R))), (41, .int .i64 R.length), (42, .int .i64 k)],
  [(0, .cells [.str [], .str [], .int .i64 0, .int .i64 0, .int .i64 0, .int .i64 0, .str []] 52), (1, .cells [.str (dcF o p per C (atM R) k).1.o, .str (dcF o p per C (atM R) k).1.p, .int .i64 (dcF o p per C (atM R) k).1.per, .int .i64 (dcF o p per C (atM R) k).1.day, .int .i64 (dcF o p per C (atM R) k).1.st, .int .i64 (dcF o p per C (atM R) k).1.pr, .str (dcF o p per C (atM R) k).1.rep] 52)], 2, []⟩
def L_rl (o p : List UInt8) (per : Int) (C R : List MG) : LSpec := fun st Q => canonIs te 0 [1, 2, 3, 8, 11, 13, 14, 40, 41, 42] st (S_rl o p per C R 0) ∧ R.length ≤ 1000000 ∧ C.length ≤ 1000000 ∧
  Q (.exit 0) ⟨[(8, .ptr 0 0), (13, .ptr 1 0), (14, .int .i64 (dcF o p per C (atM R) R.length).2)], [(0, .cells [.str [], .str [], .int .i64 0, .int .i64 0, .int .i64 0, .int .i64 0, .str []] 52),
    (1, .cells [.str (dcF o p per C (atM R) R.length).1.o, .str (dcF o p per C (atM R) R.length).1.p, .int .i64 (dcF o p per C (atM R) R.length).1.per, .int .i64 (dcF o p per C (atM R) R.length).1.day, .int .i64 (dcF o p per C (atM R) R.length).1.st, .int .i64 (dcF o p per C (atM R) R.length).1.pr, .str (dcF o p per C (atM R) R.length).1.rep] 52)], 2, []⟩
end Go.Eng
/-
  DERIVED: THE SHELF's CONTRACTS AT THIS DUMP, IN PLAIN WORDS (tools/lay-plain.mjs out of 'TryzGroL.lean', which tools/lay-shelf.mjs wrote): THE SAME DECLARATIONS UNDER THE SAME NAMES: 'import', 'namespace', 'open', 'def', 'theorem' AND NOTHING ELSE: no command of the shelf's: FOR A HAND-IN. Each laying: the table of numbers ('.._ren') and one theorem, a field a fact of the dump's own or the kernel's comparison; each contract: ONE APPLICATION.
-/
namespace Go.Proofs
open Go.Shelf
def Tryz.grow100_ren : Go.Shelf.Ren := ⟨fun | 4 => 100 | n => n, fun | 22 => 58 | 25 => 56 | 3 => 3 | 4 => 4 | 9 => 9 | 20 => 20 | 0 => 0 | n => n, fun | n => n⟩
theorem Tryz.grow100 : Go.Proofs.Lays8.n4 Tryz.prog Tryz.grow100_ren := {
  mixed := by kernel_rfl
  f4 := ⟨Tryz.f100.name, by decide, Tryz.func100.trans (congrArg some (by kernel_rfl))⟩
  t0 := Tryz.underlying0
  a0 := Tryz.isAgg0
  z0 := Tryz.sizeOf0
  v0 := Tryz.zeroValue0
  t3 := Tryz.underlying3
  a3 := Tryz.isAgg3
  z3 := Tryz.sizeOf3
  v3 := Tryz.zeroValue3
  t4 := Tryz.underlying4
  a4 := Tryz.isAgg4
  z4 := Tryz.sizeOf4
  v4 := Tryz.zeroValue4
  t9 := Tryz.underlying9
  a9 := Tryz.isAgg9
  z9 := Tryz.sizeOf9
  v9 := Tryz.zeroValue9
  t20 := Tryz.underlying20
  a20 := Tryz.isAgg20
  z20 := Tryz.sizeOf20
  v20 := Tryz.zeroValue20
  t22 := Tryz.underlying58
  a22 := Tryz.isAgg58
  z22 := Tryz.sizeOf58
  v22 := Tryz.zeroValue58 }
end Go.Proofs
