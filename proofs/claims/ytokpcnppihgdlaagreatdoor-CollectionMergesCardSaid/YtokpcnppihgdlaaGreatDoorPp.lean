/- Grow at messages: the library's contract. -/
import Derived.Test.YtokpcnppihgdlaaGreatDoorPo
import Derived.Test.YtokpcnppihgdlaaGreatDoorPn
import Derived.Shelf.SlGeneric
import Derived.Ground.Names8Prog
import Derived.Shelf.Spec.SlicesGrow
import Derived.Test.YtokpcnppihgdlaaGreatDoorProg
import Derived.Test.YtokpcnppihgdlaaGreatDoorPm
import Derived.Test.YtokpcnppihgdlaaGreatDoorPd
import Derived.Test.YtokpcnppihgdlaaGreatDoorPc
namespace Go.Eng
open Go.Proofs Go.RowKit
variable {H : Type} {enc : TypeId × Value → H} {W : World}
theorem undM : Tryz.prog.underlying 56 = some (.struct (fsOf 56)) := by kernel_rfl
theorem undMV : Tryz.prog.underlying 52 = some (.struct (fsOf 52)) := by kernel_rfl
theorem undMD : Tryz.prog.underlying 54 = some (.struct (fsOf 54)) := by kernel_rfl
theorem undMs : Tryz.prog.underlying 58 = some (.slice 56) := by kernel_rfl
theorem cM : Tryz.prog.cellsOf 56 = 15 := by kernel_rfl
theorem cMV : Tryz.prog.cellsOf 52 = 7 := by kernel_rfl
theorem cMD : Tryz.prog.cellsOf 54 = 5 := by kernel_rfl
theorem list15 {l : List Value} (h : l.length = 15) : ∃ a0 a1 a2 a3 a4 a5 a6 a7 a8 a9 a10 a11 a12 a13 a14, l = [a0, a1, a2, a3, a4, a5, a6, a7, a8, a9, a10, a11, a12, a13, a14] := by
  match l, h with
  | [a0, a1, a2, a3, a4, a5, a6, a7, a8, a9, a10, a11, a12, a13, a14], _ => exact ⟨a0, a1, a2, a3, a4, a5, a6, a7, a8, a9, a10, a11, a12, a13, a14, rfl⟩
theorem read_msg0 {fuel : Nat} {cs : List Value} {x : DataW H × List MemPlace} {sp : Nat → Bool} {hd : Bool} (h : DataW.trod enc Tryz.prog W 0 sp hd fuel 56 cs = some x) :
    ∃ (s0 s3 s4 s9 s10 s11 s13 : ByteArray) (i1 i2 i5 i6 i7 i8 i12 i14 : Int), cs = [.string s0, .int .i64 i1, .int .i64 i2, .string s3, .string s4, .int .i64 i5, .int .i64 i6, .int .i64 i7, .int .i64 i8, .string s9, .string s10, .string s11, .int .i64 i12, .string s13, .int .i64 i14] := by
  obtain ⟨xs, n, rfl, _, hc, hl, hf⟩ := DataW.trod_struct undM h
  rw [cM] at hc
  obtain ⟨a0, a1, a2, a3, a4, a5, a6, a7, a8, a9, a10, a11, a12, a13, a14, rfl⟩ := list15 hc
  obtain ⟨y0, h0⟩ := field hl hf 0 9 0 (by kernel_rfl)
  obtain ⟨y1, h1⟩ := field hl hf 1 3 1 (by kernel_rfl)
  obtain ⟨y2, h2⟩ := field hl hf 2 3 2 (by kernel_rfl)
  obtain ⟨y3, h3⟩ := field hl hf 3 52 3 (by kernel_rfl)
  obtain ⟨y4, h4⟩ := field hl hf 4 54 10 (by kernel_rfl)
  rw [cS] at h0
  rw [cI] at h1 h2
  rw [cMV] at h3
  rw [cMD] at h4
  have h3 : DataW.trod enc Tryz.prog W 0 sp hd n 52 [a3, a4, a5, a6, a7, a8, a9] = some y3 := h3
  have h4 : DataW.trod enc Tryz.prog W 0 sp hd n 54 [a10, a11, a12, a13, a14] = some y4 := h4
  obtain ⟨xv, nv, _, _, _, lv, fv⟩ := DataW.trod_struct undMV h3
  obtain ⟨xd, nd, _, _, _, ld, fd⟩ := DataW.trod_struct undMD h4
  obtain ⟨z3, g3⟩ := field lv fv 0 9 0 (by kernel_rfl)
  rw [cS] at g3
  obtain ⟨z4, g4⟩ := field lv fv 1 9 1 (by kernel_rfl)
  rw [cS] at g4
  obtain ⟨z5, g5⟩ := field lv fv 2 3 2 (by kernel_rfl)
  rw [cI] at g5
  obtain ⟨z6, g6⟩ := field lv fv 3 3 3 (by kernel_rfl)
  rw [cI] at g6
  obtain ⟨z7, g7⟩ := field lv fv 4 3 4 (by kernel_rfl)
  rw [cI] at g7
  obtain ⟨z8, g8⟩ := field lv fv 5 2 5 (by kernel_rfl)
  rw [cI2] at g8
  obtain ⟨z9, g9⟩ := field lv fv 6 9 6 (by kernel_rfl)
  rw [cS] at g9
  obtain ⟨z10, g10⟩ := field ld fd 0 9 0 (by kernel_rfl)
  rw [cS] at g10
  obtain ⟨z11, g11⟩ := field ld fd 1 9 1 (by kernel_rfl)
  rw [cS] at g11
  obtain ⟨z12, g12⟩ := field ld fd 2 3 2 (by kernel_rfl)
  rw [cI] at g12
  obtain ⟨z13, g13⟩ := field ld fd 3 9 3 (by kernel_rfl)
  rw [cS] at g13
  obtain ⟨z14, g14⟩ := field ld fd 4 3 4 (by kernel_rfl)
  rw [cI] at g14
  obtain ⟨s0, e0, _⟩ := DataW.trod_string undS h0
  obtain ⟨i1, e1, _⟩ := DataW.trod_int undI h1
  obtain ⟨i2, e2, _⟩ := DataW.trod_int undI h2
  obtain ⟨s3, e3, _⟩ := DataW.trod_string undS g3
  obtain ⟨s4, e4, _⟩ := DataW.trod_string undS g4
  obtain ⟨i5, e5, _⟩ := DataW.trod_int undI g5
  obtain ⟨i6, e6, _⟩ := DataW.trod_int undI g6
  obtain ⟨i7, e7, _⟩ := DataW.trod_int undI g7
  obtain ⟨i8, e8, _⟩ := DataW.trod_int undI2 g8
  obtain ⟨s9, e9, _⟩ := DataW.trod_string undS g9
  obtain ⟨s10, e10, _⟩ := DataW.trod_string undS g10
  obtain ⟨s11, e11, _⟩ := DataW.trod_string undS g11
  obtain ⟨i12, e12, _⟩ := DataW.trod_int undI g12
  obtain ⟨s13, e13, _⟩ := DataW.trod_string undS g13
  obtain ⟨i14, e14, _⟩ := DataW.trod_int undI g14
  simp at e0 e1 e2 e3 e4 e5 e6 e7 e8 e9 e10 e11 e12 e13 e14
  exact ⟨s0, s3, s4, s9, s10, s11, s13, i1, i2, i5, i6, i7, i8, i12, i14, by rw [e0, e1, e2, e3, e4, e5, e6, e7, e8, e9, e10, e11, e12, e13, e14]⟩
theorem read_msgs {fuel : Nat} {cs : List Value} {x : DataW H × List MemPlace} {sp : Nat → Bool} {hd : Bool} (h : DataW.trod enc Tryz.prog W 0 sp hd fuel 58 cs = some x) :
    ∃ (A : Option Addr) (n c : Nat) (g : Nat → MG), cs = [.slice A n c] ∧ V W (fun _ => False) nob (.slice A n c) (.view 15 n (mgRow g)) := by
  rcases DataW.trod_slice undMs h with ⟨rfl, _⟩ | ⟨a, len, cap, elems, rest, n, _, rfl, _, hb, hl, hm, hlen, hel, _⟩
  · exact ⟨none, 0, 0, fun _ => default, rfl, V_view _ (Nat.le_refl _) (Nat.zero_le _) (fun i hi => by omega) (.inl rfl)⟩
  · have hat : ∀ i, i < len → ∃ (s0 s3 s4 s9 s10 s11 s13 : ByteArray) (i1 i2 i5 i6 i7 i8 i12 i14 : Int), W.cell? (a.add (i * 15 + 0)) = some (.string s0) ∧ W.cell? (a.add (i * 15 + 1)) = some (.int .i64 i1) ∧ W.cell? (a.add (i * 15 + 2)) = some (.int .i64 i2) ∧ W.cell? (a.add (i * 15 + 3)) = some (.string s3) ∧ W.cell? (a.add (i * 15 + 4)) = some (.string s4) ∧ W.cell? (a.add (i * 15 + 5)) = some (.int .i64 i5) ∧ W.cell? (a.add (i * 15 + 6)) = some (.int .i64 i6) ∧ W.cell? (a.add (i * 15 + 7)) = some (.int .i64 i7) ∧ W.cell? (a.add (i * 15 + 8)) = some (.int .i64 i8) ∧ W.cell? (a.add (i * 15 + 9)) = some (.string s9) ∧ W.cell? (a.add (i * 15 + 10)) = some (.string s10) ∧ W.cell? (a.add (i * 15 + 11)) = some (.string s11) ∧ W.cell? (a.add (i * 15 + 12)) = some (.int .i64 i12) ∧ W.cell? (a.add (i * 15 + 13)) = some (.string s13) ∧ W.cell? (a.add (i * 15 + 14)) = some (.int .i64 i14) := by
      intro i hi
      have h1 := hel i hi
      rw [cM, List.getElem?_eq_getElem (by omega), Option.bind_eq_some_iff] at h1
      obtain ⟨cs', hcs, hy⟩ := h1
      obtain ⟨s0, s3, s4, s9, s10, s11, s13, i1, i2, i5, i6, i7, i8, i12, i14, rfl⟩ := read_msg0 hy
      obtain ⟨_, _, h2⟩ := World.cells?_some hcs
      have q0 := h2 0 (by omega)
      have q1 := h2 1 (by omega)
      have q2 := h2 2 (by omega)
      have q3 := h2 3 (by omega)
      have q4 := h2 4 (by omega)
      have q5 := h2 5 (by omega)
      have q6 := h2 6 (by omega)
      have q7 := h2 7 (by omega)
      have q8 := h2 8 (by omega)
      have q9 := h2 9 (by omega)
      have q10 := h2 10 (by omega)
      have q11 := h2 11 (by omega)
      have q12 := h2 12 (by omega)
      have q13 := h2 13 (by omega)
      have q14 := h2 14 (by omega)
      rw [addr_add] at q0 q1 q2 q3 q4 q5 q6 q7 q8 q9 q10 q11 q12 q13 q14
      exact ⟨s0, s3, s4, s9, s10, s11, s13, i1, i2, i5, i6, i7, i8, i12, i14, q0, q1, q2, q3, q4, q5, q6, q7, q8, q9, q10, q11, q12, q13, q14⟩
    refine ⟨some a, len, cap, fun i => ⟨txV (W.cell? (a.add (i * 15 + 0))), nuV (W.cell? (a.add (i * 15 + 1))), nuV (W.cell? (a.add (i * 15 + 2))), ⟨txV (W.cell? (a.add (i * 15 + 3))), txV (W.cell? (a.add (i * 15 + 4))), nuV (W.cell? (a.add (i * 15 + 5))), nuV (W.cell? (a.add (i * 15 + 6))), nuV (W.cell? (a.add (i * 15 + 7))), nuV (W.cell? (a.add (i * 15 + 8))), txV (W.cell? (a.add (i * 15 + 9)))⟩, ⟨txV (W.cell? (a.add (i * 15 + 10))), txV (W.cell? (a.add (i * 15 + 11))), nuV (W.cell? (a.add (i * 15 + 12))), txV (W.cell? (a.add (i * 15 + 13))), nuV (W.cell? (a.add (i * 15 + 14)))⟩⟩, rfl, V_view _ hl hm (fun _ _ => rfl) ?_⟩
    by_cases h0 : len = 0
    · exact .inl h0
    · refine .inr ⟨a, rfl, ?_, fun i hi j hj => ?_⟩
      · have h1 := hel 0 (by omega)
        rw [List.getElem?_eq_getElem (show 0 < elems.length by omega), Option.bind_eq_some_iff] at h1
        obtain ⟨cs', hcs, _⟩ := h1
        rw [cM] at hcs
        have q := World.cells?_block hcs (by omega)
        rw [add_block] at q
        exact q
      · obtain ⟨s0, s3, s4, s9, s10, s11, s13, i1, i2, i5, i6, i7, i8, i12, i14, e0, e1, e2, e3, e4, e5, e6, e7, e8, e9, e10, e11, e12, e13, e14⟩ := hat i hi
        match j with
        | 0 =>
          refine ⟨_, e0, rfl, fun u hu => ?_⟩
          have hu : some (AV.str (txV (W.cell? (a.add (i * 15 + 0))))) = some u := hu
          rw [e0] at hu
          obtain rfl := Option.some.inj hu
          exact .str rfl
        | 1 =>
          refine ⟨_, e1, rfl, fun u hu => ?_⟩
          have hu : some (AV.int .i64 (nuV (W.cell? (a.add (i * 15 + 1))))) = some u := hu
          rw [e1] at hu
          obtain rfl := Option.some.inj hu
          exact .int
        | 2 =>
          refine ⟨_, e2, rfl, fun u hu => ?_⟩
          have hu : some (AV.int .i64 (nuV (W.cell? (a.add (i * 15 + 2))))) = some u := hu
          rw [e2] at hu
          obtain rfl := Option.some.inj hu
          exact .int
        | 3 =>
          refine ⟨_, e3, rfl, fun u hu => ?_⟩
          have hu : some (AV.str (txV (W.cell? (a.add (i * 15 + 3))))) = some u := hu
          rw [e3] at hu
          obtain rfl := Option.some.inj hu
          exact .str rfl
        | 4 =>
          refine ⟨_, e4, rfl, fun u hu => ?_⟩
          have hu : some (AV.str (txV (W.cell? (a.add (i * 15 + 4))))) = some u := hu
          rw [e4] at hu
          obtain rfl := Option.some.inj hu
          exact .str rfl
        | 5 =>
          refine ⟨_, e5, rfl, fun u hu => ?_⟩
          have hu : some (AV.int .i64 (nuV (W.cell? (a.add (i * 15 + 5))))) = some u := hu
          rw [e5] at hu
          obtain rfl := Option.some.inj hu
          exact .int
        | 6 =>
          refine ⟨_, e6, rfl, fun u hu => ?_⟩
          have hu : some (AV.int .i64 (nuV (W.cell? (a.add (i * 15 + 6))))) = some u := hu
          rw [e6] at hu
          obtain rfl := Option.some.inj hu
          exact .int
        | 7 =>
          refine ⟨_, e7, rfl, fun u hu => ?_⟩
          have hu : some (AV.int .i64 (nuV (W.cell? (a.add (i * 15 + 7))))) = some u := hu
          rw [e7] at hu
          obtain rfl := Option.some.inj hu
          exact .int
        | 8 =>
          refine ⟨_, e8, rfl, fun u hu => ?_⟩
          have hu : some (AV.int .i64 (nuV (W.cell? (a.add (i * 15 + 8))))) = some u := hu
          rw [e8] at hu
          obtain rfl := Option.some.inj hu
          exact .int
        | 9 =>
          refine ⟨_, e9, rfl, fun u hu => ?_⟩
          have hu : some (AV.str (txV (W.cell? (a.add (i * 15 + 9))))) = some u := hu
          rw [e9] at hu
          obtain rfl := Option.some.inj hu
          exact .str rfl
        | 10 =>
          refine ⟨_, e10, rfl, fun u hu => ?_⟩
          have hu : some (AV.str (txV (W.cell? (a.add (i * 15 + 10))))) = some u := hu
          rw [e10] at hu
          obtain rfl := Option.some.inj hu
          exact .str rfl
        | 11 =>
          refine ⟨_, e11, rfl, fun u hu => ?_⟩
          have hu : some (AV.str (txV (W.cell? (a.add (i * 15 + 11))))) = some u := hu
          rw [e11] at hu
          obtain rfl := Option.some.inj hu
          exact .str rfl
        | 12 =>
          refine ⟨_, e12, rfl, fun u hu => ?_⟩
          have hu : some (AV.int .i64 (nuV (W.cell? (a.add (i * 15 + 12))))) = some u := hu
          rw [e12] at hu
          obtain rfl := Option.some.inj hu
          exact .int
        | 13 =>
          refine ⟨_, e13, rfl, fun u hu => ?_⟩
          have hu : some (AV.str (txV (W.cell? (a.add (i * 15 + 13))))) = some u := hu
          rw [e13] at hu
          obtain rfl := Option.some.inj hu
          exact .str rfl
        | 14 =>
          refine ⟨_, e14, rfl, fun u hu => ?_⟩
          have hu : some (AV.int .i64 (nuV (W.cell? (a.add (i * 15 + 14))))) = some u := hu
          rw [e14] at hu
          obtain rfl := Option.some.inj hu
          exact .int
end Go.Eng
namespace Go.Eng
def t30 (nm : Nat → List UInt8) (i : Nat) : List UInt8 := (nm i).take 30
theorem take_m (s : List UInt8) (k : Int) : s.take (Int.toNat (min (s.length : Int) k)) = s.take k.toNat := by
  rcases Int.le_total (s.length : Int) k with h | h
  · rw [Int.min_eq_left h, Int.toNat_natCast, List.take_length, List.take_of_length_le (by omega)]
  · rw [Int.min_eq_right h]
end Go.Eng
namespace Go.Eng
def foldV (n k : Int) : Int := n % 18446744073709551616 % k
def S_fold : Spec
  | [.int .i64 n, .int .i64 k], [] => some (.int .i64 (foldV n k), [], 1 ≤ k ∧ k ≤ 1000000)
  | _, _ => none
def nextV (n : Nat) (v : Nat → Int) (a k : Int) : Int := foldV (bif decide (a < n) then v a.toNat else 0) k
def S_next : Spec
  | [.ptr 0 0, .int .i64 k], [.cells [.view sz n f, .int .i64 a] t] => some (.int .i64 (nextV n (vInt f) a k), [(0, .cells [.view 1 n f, .int .i64 (a + 1)] 28)], t = 28 ∧ sz = 1 ∧ f = intRow (vInt f) ∧ (1 ≤ k ∧ k ≤ 1000000) ∧ (0 ≤ a ∧ a ≤ 4611686018427387904))
  | _, _ => none
def pw (V j : Nat) : Nat := V / 10 ^ j
def dgI (V k : Nat) : Int := 48 + ((V / 10 ^ (6 - k) % 10 : Nat) : Int)
def idRow (V : Nat) (k : Nat) : List AV := [.int .u8 (dgI V k)]
def idV (n : Int) : Nat := 1000000 + (foldV n 1000000).toNat
def id7 (n : Int) : List UInt8 := bytesA 7 (idRow (idV n))
def idF (n : Int) : List UInt8 := id7 n ++ [UInt8.ofNat (48 + (cdF (id7 n)).1).toNat]
def S_id : Spec
  | [.int .i64 n], [] => some (.str (idF n), [], True)
  | _, _ => none
def S_idl (V : Nat) (j : Nat) : St := ⟨[(3, .int .i64 (pw V j : Nat)), (4, .own 0 7), (5, .int .i64 (6 - (j : Int)))], [(0, .row 5 1 7 (fun k => [.int .u8 (bif decide (7 ≤ k + j) then dgI V k else 0)]) false)], 1, []⟩
def L_id (V : Nat) : LSpec := fun st Q => canonIs te 0 [3, 4, 5] st (S_idl V 0) ∧ V < 2000000 ∧
  Q (.exit 0) ⟨[(4, .own 0 7)], [(0, .row 5 1 7 (idRow V) false)], 1, []⟩
theorem foldV_range {k : Int} (h : 1 ≤ k) (n : Int) : 0 ≤ foldV n k ∧ foldV n k < k := by
  unfold foldV
  exact ⟨Int.emod_nonneg _ (by omega), Int.emod_lt_of_pos _ (by omega)⟩
theorem nextV_range {k : Int} (h : 1 ≤ k) (n : Nat) (v : Nat → Int) (a : Int) : 0 ≤ nextV n v a k ∧ nextV n v a k < k := foldV_range h _
theorem cdF_range (s : List UInt8) : 0 ≤ (cdF s).1 ∧ (cdF s).1 ≤ 9 := by
  unfold cdF
  split
  · show 0 ≤ (10 - cdSum s s.length % 10) % 10 ∧ (10 - cdSum s s.length % 10) % 10 ≤ 9
    omega
  · exact ⟨by decide, by decide⟩
theorem id7_len (n : Int) : (id7 n).length = 7 := by simp [id7, bytesA]
theorem idF_len (n : Int) : (idF n).length = 8 := by rw [idF, List.length_append, id7_len]; rfl
theorem dgI_range (V k : Nat) : 48 ≤ dgI V k ∧ dgI V k ≤ 57 := by
  unfold dgI
  have := Nat.mod_lt (V / 10 ^ (6 - k)) (show 0 < 10 by omega)
  omega
end Go.Eng
namespace Go.Eng
theorem u8_to {n : Int} (h0 : 0 ≤ n) (h1 : n < 256) : ((UInt8.ofNat n.toNat).toNat : Int) = n := by
  rw [UInt8.toNat_ofNat']
  have : n.toNat % 2 ^ 8 = n.toNat := Nat.mod_eq_of_lt (by omega)
  omega
theorem id7_dig (n : Int) : (id7 n).all isDig = true := by
  unfold id7 bytesA
  rw [List.all_map, List.all_eq_true]
  intro k _
  have h := dgI_range (idV n) k
  have e := u8_to (n := dgI (idV n) k) (by omega) (by omega)
  show isDig (UInt8.ofNat (dgI (idV n) k).toNat) = true
  unfold isDig
  rw [Bool.and_eq_true, decide_eq_true_eq, decide_eq_true_eq]
  omega
theorem idF_valid (n : Int) : validIDF (idF n) = true := by
  have hc := cdF_range (id7 n)
  have e := u8_to (n := 48 + (cdF (id7 n)).1) (by omega) (by omega)
  have hd : digitsF (idF n) 8 13 = true := by
    unfold digitsF
    rw [idF_len, Bool.and_eq_true]
    refine ⟨rfl, ?_⟩
    unfold idF
    rw [List.all_append, id7_dig, List.all_cons]
    unfold isDig
    rw [Bool.true_and, List.all_nil, Bool.and_true, Bool.and_eq_true, decide_eq_true_eq, decide_eq_true_eq]
    omega
  have ht : (idF n).take 7 = id7 n := by unfold idF; rw [← id7_len n]; exact List.take_left
  have hg : (idF n).getD 7 0 = UInt8.ofNat (48 + (cdF (id7 n)).1).toNat := by
    unfold idF
    rw [List.getD_eq_getElem?_getD, List.getElem?_append_right (by rw [id7_len]; exact Nat.le_refl _), id7_len]
    rfl
  unfold validIDF
  rw [hd, idF_len]
  show decide ((cdF ((idF n).take 7)).1 = (((idF n).getD 7 0).toNat : Int) - 48) = true
  rw [ht, hg, e, decide_eq_true_eq]
  omega
end Go.Eng
namespace Go.Eng
structure IT where
  c : Nat
  h : Nat → RW
  c0 : Nat
  left : List Nat
def outF (i : Int) : List UInt8 := List.getD [[111, 49], [111, 50], [112]] i.toNat []
def S_outlet : Spec
  | [.ptr 0 0], [.cells [.view sz n f, .int .i64 a] t] => some (.str (outF (nextV n (vInt f) a 3)), [(0, .cells [.view 1 n f, .int .i64 (a + 1)] 28)], t = 28 ∧ sz = 1 ∧ f = intRow (vInt f) ∧ (0 ≤ a ∧ a ≤ 4611686018427387000))
  | _, _ => none
def S_product : Spec
  | [.ptr 0 0], [.cells [.view sz n f, .int .i64 a] t] => some (.str (idF (nextV n (vInt f) a 4)), [(0, .cells [.view 1 n f, .int .i64 (a + 1)] 28)], t = 28 ∧ sz = 1 ∧ f = intRow (vInt f) ∧ (0 ≤ a ∧ a ≤ 4611686018427387000))
  | _, _ => none
end Go.Eng
namespace Go.Eng
def R_grow : RSpec
  | [.nil, .int .i64 n], [], R => 0 ≤ n ∧ n ≤ 1000000 ∧ (n = 0 → R .nil []) ∧ (0 < n → R (.own 0 0) [(0, .row 56 15 0 (fun _ => []) false)])
  | _, _, _ => False
end Go.Eng
namespace Go.Eng
def eqM (a b : MG) : Bool := decide (a.dev = b.dev) && (decide (a.seq = b.seq) && (decide (a.kind = b.kind) && ((decide (a.v.o = b.v.o) && (decide (a.v.p = b.v.p) && (decide (a.v.per = b.v.per) && (decide (a.v.day = b.v.day) && (decide (a.v.st = b.v.st) && (decide (a.v.pr = b.v.pr) && decide (a.v.rep = b.v.rep))))))) && (decide (a.d.o = b.d.o) && (decide (a.d.p = b.d.p) && (decide (a.d.per = b.d.per) && (decide (a.d.dev = b.d.dev) && decide (a.d.num = b.d.num))))))))
def keepF (g : Nat → MG) (i : Nat) : Bool := decide (i = 0) || !eqM (g i) (g (i - 1))
def ddL (g : Nat → MG) (m : Nat) : List MG := ((List.range m).filter (keepF g)).map g
def allK (g : Nat → MG) : Nat → Bool
  | 0 => true
  | k + 1 => allK g k && keepF g k
def R_cmpct : RSpec
  | [.own 0 n], [.row t 15 m f fr], R => t = 56 ∧ fr = false ∧ n = m ∧ n ≤ 1000000 ∧ f = mgRow (mgOf f) ∧
      ∀ (k : Nat) (h : Nat → MG), lst h k = ddL (mgOf f) n → R (.own 0 k) [(0, .row 56 15 k (mgRow h) false)]
  | _, _, _ => False
def S_cp (g : Nat → MG) (n k : Nat) : St := ⟨[(0, .own 0 n), (3, .int .i64 k)], [(0, .row 56 15 n (mgRow g) false)], 1, []⟩
def L_cp (g : Nat → MG) (n : Nat) : LSpec := fun st Q => canonIs te 1 [0, 3] st (S_cp g n 1) ∧ 2 ≤ n ∧ n ≤ 1000000 ∧
  (allK g n = true → Q (.exit 0) ⟨[(0, .own 0 n)], [(0, .row 56 15 n (mgRow g) false)], 1, []⟩) ∧
  ∀ (w : Nat) (h : Nat → MG), lst h w = ddL g n → Q .ret ⟨[(2, .own 0 w)], [(0, .row 56 15 w (mgRow h) false)], 1, []⟩
structure CI where
  k : Nat
  w : Nat
  h : Nat → MG
def S_ci (_g : Nat → MG) (n k0 : Nat) (i : CI) : St := ⟨[(0, .own 0 n), (3, .int .i64 i.w), (4, .sub 0 15 k0 (n - k0)), (5, .int .i64 i.k)], [(0, .row 56 15 n (mgRow i.h) false)], 1, []⟩
def L_ci (g : Nat → MG) (n k0 : Nat) : LSpec := fun st Q => canonIs te 1 [0, 3, 4, 5] st (S_ci g n k0 ⟨1, k0, g⟩) ∧ (1 ≤ k0 ∧ k0 < n ∧ n ≤ 1000000) ∧ allK g k0 = true ∧ keepF g k0 = false ∧
  ∀ (w : Nat) (h : Nat → MG), w ≤ n → lst h w = ddL g n → Q (.exit 2) ⟨[(0, .own 0 n), (3, .int .i64 w)], [(0, .row 56 15 n (mgRow h) false)], 1, []⟩
end Go.Eng
namespace Go.Eng
def slRow (nn : Nat → Nat) (gg : Nat → Nat → MG) (i : Nat) : List AV := [.view 15 (nn i) (mgRow (gg i))]
def sumN (nn : Nat → Nat) : Nat → Nat
  | 0 => 0
  | k + 1 => sumN nn k + nn k
def catG (nn : Nat → Nat) (gg : Nat → Nat → MG) : Nat → Nat → MG
  | 0, _ => default
  | k + 1, i => if i < sumN nn k then catG nn gg k i else gg k (i - sumN nn k)
def R_concat : RSpec
  | [.own 0 c], [.row t 1 c' f fr], R => ∃ (nn : Nat → Nat) (gg : Nat → Nat → MG), t = 58 ∧ fr = false ∧ c = c' ∧ c ≤ 1000 ∧ (∀ i, i < c → slRow nn gg i = f i) ∧ sumN nn c ≤ 1000000 ∧
      R (.view 15 (sumN nn c) (mgRow (catG nn gg c))) [(0, .row 58 1 c (slRow nn gg) false)]
  | _, _, _ => False
def S_c1 (nn : Nat → Nat) (gg : Nat → Nat → MG) (c k : Nat) : St := ⟨[(0, .own 0 c), (3, .int .i64 (sumN nn k)), (9, .own 0 c), (10, .int .i64 c), (11, .int .i64 k)], [(0, .row 58 1 c (slRow nn gg) false)], 1, []⟩
def L_c1 (nn : Nat → Nat) (gg : Nat → Nat → MG) (c : Nat) : LSpec := fun st Q => canonIs te 1 [0, 3, 9, 10, 11] st (S_c1 nn gg c 0) ∧ c ≤ 1000 ∧ sumN nn c ≤ 1000000 ∧
  Q (.exit 0) ⟨[(0, .own 0 c), (3, .int .i64 (sumN nn c))], [(0, .row 58 1 c (slRow nn gg) false)], 1, []⟩
def S_c2 (nn : Nat → Nat) (gg : Nat → Nat → MG) (c k : Nat) : St := ⟨[(6, .own 1 (sumN nn k)), (25, .own 0 c), (26, .int .i64 c), (27, .int .i64 k)], [(0, .row 58 1 c (slRow nn gg) false), (1, .row 56 15 (sumN nn k) (mgRow (catG nn gg k)) false)], 2, []⟩
def L_c2 (nn : Nat → Nat) (gg : Nat → Nat → MG) (c : Nat) : LSpec := fun st Q => canonIs te 1 [6, 25, 26, 27] (ownNil 6 56 15 st) (S_c2 nn gg c 0) ∧ c ≤ 1000 ∧ sumN nn c ≤ 1000000 ∧
  Q (.exit 2) ⟨[(6, .own 1 (sumN nn c))], [(0, .row 58 1 c (slRow nn gg) false), (1, .row 56 15 (sumN nn c) (mgRow (catG nn gg c)) false)], 2, []⟩
end Go.Eng
namespace Go.Eng
def atM (L : List MG) (i : Nat) : MG := L.getD i default
def flL (g : Nat → MG) (k : Nat) : List MG := (lst g k).filter okM
structure MG.Sm (m : MG) : Prop where
  a : m.dev.length < 4294967281
  b : m.v.o.length < 4294967281
  c : m.d.o.length < 4294967281
  d : m.d.dev.length < 4294967281
def nn2 (n m i : Nat) : Nat := if i = 0 then n else m
def gg2 (g h : Nat → MG) (i : Nat) : Nat → MG := if i = 0 then g else h
def mrgL (g : Nat → MG) (n : Nat) (h : Nat → MG) (m : Nat) : List MG := mrgF (lst g n ++ lst h m)
def S_mg (g : Nat → MG) (n k : Nat) : St := ⟨[(5, .own 0 (flL g k).length), (11, .view 15 n (mgRow g)), (12, .int .i64 n), (13, .int .i64 k)], [(0, .row 56 15 (flL g k).length (mgRow (atM (flL g k))) false)], 1, []⟩
def L_mg (g : Nat → MG) (n : Nat) : LSpec := fun st Q => canonIs te 0 [5, 11, 12, 13] (ownNil 5 56 15 st) (S_mg g n 0) ∧ n ≤ 200000 ∧ (∀ i, i < n → (g i).Sm) ∧
  Q (.exit 0) ⟨[(5, .own 0 (flL g n).length)], [(0, .row 56 15 (flL g n).length (mgRow (atM (flL g n))) false)], 1, []⟩
def S_mrg : Spec
  | [.view 15 n f, .view 15 m h], [] => some (.own 0 (mrgL (mgOf f) n (mgOf h) m).length, [(0, .row 56 15 (mrgL (mgOf f) n (mgOf h) m).length (mgRow (atM (mrgL (mgOf f) n (mgOf h) m))) false)],
      n ≤ 100000 ∧ m ≤ 100000 ∧ f = mgRow (mgOf f) ∧ h = mgRow (mgOf h) ∧ (∀ i, i < n → (mgOf f i).Sm) ∧ ∀ i, i < m → (mgOf h i).Sm)
  | _, _ => none
end Go.Eng
namespace Go.Eng
def devF (i : Int) : List UInt8 := List.getD [[97], [98], [99]] i.toNat []
def S_device : Spec
  | [.ptr 0 0], [.cells [.view sz n f, .int .i64 a] t] => some (.str (devF (nextV n (vInt f) a 3)), [(0, .cells [.view 1 n f, .int .i64 (a + 1)] 28)], t = 28 ∧ sz = 1 ∧ f = intRow (vInt f) ∧ (0 ≤ a ∧ a ≤ 4611686018427387000))
  | _, _ => none
structure VT.Made (x : VT) : Prop where
  ok : visF x = true
  o : x.o.length ≤ 2
def R_visit : RSpec
  | [.ptr 0 0], [.cells [.view sz n f, .int .i64 a] t], R => t = 28 ∧ sz = 1 ∧ f = intRow (vInt f) ∧ (0 ≤ a ∧ a ≤ 4611686018427386000) ∧
      ∀ (x : VT) (a' : Int), x.Made → (a ≤ a' ∧ a' ≤ a + 7) →
      R (.agg [.str x.o, .str x.p, .int .i64 x.per, .int .i64 x.day, .int .i64 x.st, .int .i64 x.pr, .str x.rep]) [(0, .cells [.view 1 n f, .int .i64 a'] 28)]
  | _, _, _ => False
structure MG.Made (m : MG) : Prop where
  ok : msgF m = 0
  dev : m.dev.length ≤ 1
  o : m.v.o.length ≤ 2
  o' : m.d.o.length ≤ 2
  dd : m.d.dev.length ≤ 1
def R_mmsg : RSpec
  | [.ptr 0 0], [.cells [.view sz n f, .int .i64 a] t], R => t = 28 ∧ sz = 1 ∧ f = intRow (vInt f) ∧ (0 ≤ a ∧ a ≤ 4611686018427385000) ∧
      ∀ (m : MG) (a' : Int), m.Made → (a ≤ a' ∧ a' ≤ a + 10) →
      R (.agg [.str m.dev, .int .i64 m.seq, .int .i64 m.kind, .str m.v.o, .str m.v.p, .int .i64 m.v.per, .int .i64 m.v.day, .int .i64 m.v.st, .int .i64 m.v.pr, .str m.v.rep, .str m.d.o, .str m.d.p, .int .i64 m.d.per, .str m.d.dev, .int .i64 m.d.num]) [(0, .cells [.view 1 n f, .int .i64 a'] 28)]
  | _, _, _ => False
theorem idF4 : ∀ i, i < 4 → ¬ idF 4 = idF (i : Nat) := by decide +kernel
theorem devF_ok : ∀ i, i < 3 → nameF (List.getD [[97], [98], [99]] i []) = true ∧ (List.getD [[97], [98], [99]] i ([] : List UInt8)).length ≤ 1 := by decide +kernel
end Go.Eng
namespace Go.Eng
def mk2 (m : MG) : List UInt8 × Int := (m.dev, m.seq)
def addC : List ((List UInt8 × Int) × Int) → List UInt8 × Int → List ((List UInt8 × Int) × Int)
  | [], p => [(p, 1)]
  | x :: l, p => bif decide (x.1.1 = p.1) && decide (x.1.2 = p.2) then (p, x.2 + 1) :: l else x :: addC l p
def getC : List ((List UInt8 × Int) × Int) → List UInt8 × Int → Int
  | [], _ => 0
  | x :: l, p => bif decide (x.1.1 = p.1) && decide (x.1.2 = p.2) then x.2 else getC l p
def cntL (g : Nat → MG) : Nat → List ((List UInt8 × Int) × Int)
  | 0 => []
  | k + 1 => addC (cntL g k) (mk2 (g k))
def numC (g : Nat → MG) (p : List UInt8 × Int) : Nat → Int
  | 0 => 0
  | k + 1 => numC g p k + bif decide ((mk2 (g k)).1 = p.1) && decide ((mk2 (g k)).2 = p.2) then 1 else 0
theorem same2 {a b : List UInt8 × Int} : (decide (a.1 = b.1) && decide (a.2 = b.2)) = true ↔ a = b := by
  simp [Prod.ext_iff]
theorem getC_addC (q p : List UInt8 × Int) : ∀ L, getC (addC L p) q = getC L q + bif decide (p.1 = q.1) && decide (p.2 = q.2) then 1 else 0
  | [] => by
    show (bif decide (p.1 = q.1) && decide (p.2 = q.2) then (1 : Int) else 0) = 0 + bif decide (p.1 = q.1) && decide (p.2 = q.2) then 1 else 0
    generalize (decide (p.1 = q.1) && decide (p.2 = q.2)) = b
    cases b <;> rfl
  | x :: l => by
    have ih := getC_addC q p l
    rw [addC]
    cases h : decide (x.1.1 = p.1) && decide (x.1.2 = p.2) with
    | true =>
      have e := same2.1 h
      show getC ((p, x.2 + 1) :: l) q = getC (x :: l) q + _
      rw [getC, getC, e]
      cases h2 : decide (p.1 = q.1) && decide (p.2 = q.2) with
      | true => rfl
      | false => show getC l q = getC l q + 0; omega
    | false =>
      show getC (x :: addC l p) q = getC (x :: l) q + _
      rw [getC, getC]
      cases h2 : decide (x.1.1 = q.1) && decide (x.1.2 = q.2) with
      | true =>
        have e := same2.1 h2
        have : (decide (p.1 = q.1) && decide (p.2 = q.2)) = false := by
          cases r : decide (p.1 = q.1) && decide (p.2 = q.2) with
          | false => rfl
          | true => rw [e, ← same2.1 r] at h; simp at h
        rw [this]; show x.2 = x.2 + 0; omega
      | false => exact ih
theorem getC_cntL (g : Nat → MG) (q : List UInt8 × Int) : ∀ k, getC (cntL g k) q = numC g q k
  | 0 => rfl
  | k + 1 => by rw [cntL, getC_addC, getC_cntL g q k, numC]
theorem numC_le (g : Nat → MG) (q : List UInt8 × Int) : ∀ k, 0 ≤ numC g q k ∧ numC g q k ≤ k
  | 0 => by simp [numC]
  | k + 1 => by
    have := numC_le g q k
    rw [numC]
    cases decide ((mk2 (g k)).1 = q.1) && decide ((mk2 (g k)).2 = q.2) <;> simp <;> omega
theorem addC_keys (p : List UInt8 × Int) : ∀ (L : List ((List UInt8 × Int) × Int)) (x : List UInt8 × Int), x ∈ (addC L p).map Prod.fst → x ∈ L.map Prod.fst ∨ x = p
  | [], x, h => by simpa [addC] using h
  | y :: l, x, h => by
    rw [addC] at h
    cases e : decide (y.1.1 = p.1) && decide (y.1.2 = p.2) with
    | true =>
      rw [e] at h
      rcases List.mem_cons.1 h with h | h
      · exact .inr h
      · exact .inl (List.mem_cons_of_mem _ h)
    | false =>
      rw [e] at h
      rcases List.mem_cons.1 h with h | h
      · exact .inl (by rw [h]; exact List.mem_cons_self ..)
      · rcases addC_keys p l x h with h | h
        · exact .inl (List.mem_cons_of_mem _ h)
        · exact .inr h
theorem addC_nodup (p : List UInt8 × Int) : ∀ {L : List ((List UInt8 × Int) × Int)}, (L.map Prod.fst).Nodup → ((addC L p).map Prod.fst).Nodup
  | [], _ => by simp [addC]
  | y :: l, h => by
    obtain ⟨h1, h2⟩ := List.nodup_cons.1 (show (y.1 :: l.map Prod.fst).Nodup from h)
    rw [addC]
    cases e : decide (y.1.1 = p.1) && decide (y.1.2 = p.2) with
    | true =>
      have e' := same2.1 e
      exact List.nodup_cons.2 ⟨by rw [← e']; exact h1, h2⟩
    | false =>
      refine List.nodup_cons.2 ⟨fun q => ?_, addC_nodup p h2⟩
      rcases addC_keys p l y.1 q with q | q
      · exact h1 q
      · rw [q] at e; simp at e
theorem cntL_nodup (g : Nat → MG) : ∀ k, ((cntL g k).map Prod.fst).Nodup
  | 0 => by simp [cntL]
  | k + 1 => addC_nodup _ (cntL_nodup g k)
end Go.Eng
namespace Go.Eng
def entM (L : List ((List UInt8 × Int) × Int)) : List (AV × AV) := L.map fun x => (.agg [.str x.1.1, .int .i64 x.1.2], .int .i64 x.2)
def S_mark : Spec
  | [.agg [.str dev, .int .i64 seq, .int .i64 _, .str _, .str _, .int .i64 _, .int .i64 _, .int .i64 _, .int .i64 _, .str _, .str _, .str _, .int .i64 _, .str _, .int .i64 _]], [] => some (.agg [.str dev, .int .i64 seq], [], True)
  | _, _ => none
def S_counts : Spec
  | [.own 0 n], [.row t 15 m f fr] => some (.map 1, [(0, .row 56 15 n f false), (1, .amap (entM (cntL (mgOf f) n)))], t = 56 ∧ fr = false ∧ n = m ∧ n ≤ 1000000 ∧ f = mgRow (mgOf f))
  | _, _ => none
def S_ct (g : Nat → MG) (n k : Nat) : St := ⟨[(3, .map 1), (7, .own 0 n), (8, .int .i64 n), (9, .int .i64 k)], [(0, .row 56 15 n (mgRow g) false), (1, .amap (entM (cntL g k)))], 2, []⟩
def L_ct (g : Nat → MG) (n : Nat) : LSpec := fun st Q => canonIs te 1 [3, 7, 8, 9] st (S_ct g n 0) ∧ n ≤ 1000000 ∧ Q (.exit 0) ⟨[(3, .map 1)], [(0, .row 56 15 n (mgRow g) false), (1, .amap (entM (cntL g n)))], 2, []⟩
def S_c5 (L : List ((List UInt8 × Int) × Int)) (x : MG) (g : Nat → MG) (n k : Nat) : St := ⟨[(3, .map 1), (5, .ptr 2 0), (7, .own 0 n), (8, .int .i64 n), (9, .int .i64 k)], [(0, .row 56 15 n (mgRow g) false), (1, .amap (entM L)),
  (2, .cells [.str x.dev, .int .i64 x.seq, .int .i64 x.kind, .str x.v.o, .str x.v.p, .int .i64 x.v.per, .int .i64 x.v.day, .int .i64 x.v.st, .int .i64 x.v.pr, .str x.v.rep, .str x.d.o, .str x.d.p, .int .i64 x.d.per, .str x.d.dev, .int .i64 x.d.num] 56)], 3, []⟩
def L_c5 (L : List ((List UInt8 × Int) × Int)) (x : MG) (g : Nat → MG) (n k : Nat) : LSpec := fun st Q => canonIs te 1 [3, 5, 7, 8, 9] st (S_c5 L x g n k) ∧ (L.map Prod.fst).Nodup ∧ inR .i64 (getC L (mk2 x) + 1) ∧
  Q .normal (S_c5 (addC L (mk2 x)) x g n k)
end Go.Eng
namespace Go.Eng
def fstB (q : Nat → Bool) : Nat → Nat
  | 0 => 0
  | k + 1 => bif decide (fstB q k < k) then fstB q k else (bif q k then k else k + 1)
def ixB (q : Nat → Bool) (n : Nat) : Int := bif decide (fstB q n < n) then (fstB q n : Int) else -1
theorem fstB_le (q : Nat → Bool) : ∀ k, fstB q k ≤ k
  | 0 => Nat.le_refl _
  | k + 1 => by
    have ih := fstB_le q k
    rw [fstB]
    cases decide (fstB q k < k) with
    | true => show fstB q k ≤ k + 1; omega
    | false => cases q k with
      | true => show k ≤ k + 1; omega
      | false => exact Nat.le_refl _
theorem fstB_not {q : Nat → Bool} {k : Nat} (h : fstB q k = k) (hk : q k = false) : fstB q (k + 1) = k + 1 := by
  rw [fstB, decide_eq_false (show ¬ fstB q k < k by omega), hk]; rfl
theorem fstB_at {q : Nat → Bool} {k : Nat} (h : fstB q k = k) (hk : q k = true) : ∀ n, k < n → fstB q n = k
  | 0, hn => absurd hn (Nat.not_lt_zero _)
  | n + 1, hn => by
    rw [fstB]
    by_cases e : k = n
    · subst e
      rw [decide_eq_false (show ¬ fstB q k < k by omega), hk]; rfl
    · have ih := fstB_at h hk n (by omega)
      rw [ih, decide_eq_true (show k < n by omega)]; rfl
theorem fstB_spec (q : Nat → Bool) : ∀ n, (∀ j, j < fstB q n → q j = false) ∧ (fstB q n < n → q (fstB q n) = true)
  | 0 => ⟨fun j hj => absurd hj (Nat.not_lt_zero _), fun h => absurd h (Nat.not_lt_zero _)⟩
  | n + 1 => by
    obtain ⟨h1, h2⟩ := fstB_spec q n
    have hle := fstB_le q n
    by_cases h : fstB q n < n
    · have e : fstB q (n + 1) = fstB q n := by rw [fstB, decide_eq_true h]; rfl
      rw [e]
      exact ⟨h1, fun _ => h2 h⟩
    · have h0 : fstB q n = n := by omega
      rw [h0] at h1
      cases hq : q n with
      | true =>
        have e : fstB q (n + 1) = n := by rw [fstB, decide_eq_false h, hq]; rfl
        rw [e]
        exact ⟨h1, fun _ => hq⟩
      | false =>
        have e : fstB q (n + 1) = n + 1 := fstB_not h0 hq
        rw [e]
        refine ⟨fun j hj => ?_, fun h => absurd h (Nat.lt_irrefl _)⟩
        by_cases q' : j = n
        · rw [q']; exact hq
        · exact h1 j (by omega)
def cntE (es : List (AV × AV)) (m : MG) : Int := intOf ((mget es (.agg [.str m.dev, .int .i64 m.seq])).getD (.int .i64 0))
def delF (es : List (AV × AV)) (m : MG) : Bool := decide (1 < cntE es m)
def EsOK (es : List (AV × AV)) : Prop := ∃ L : List ((List UInt8 × Int) × Int), es = entM L ∧ (L.map Prod.fst).Nodup
def S_right1 : Spec
  | [.agg [.str dev, .int .i64 seq, .int .i64 kind, .str o, .str p, .int .i64 per, .int .i64 day, .int .i64 st, .int .i64 pr, .str rep, .str o', .str p', .int .i64 per', .str dev', .int .i64 num], .ptr 0 0], [.cells [.map 1] t, .amap es] =>
      some (.bool (delF es ⟨dev, seq, kind, ⟨o, p, per, day, st, pr, rep⟩, ⟨o', p', per', dev', num⟩⟩), [(0, .cells [.map 1] t), (1, .amap es)], t = 131 ∧ EsOK es)
  | _, _ => none
def S_ixR : Spec
  | [.own 0 n, .func 108 [.ptr 1 0]], [.row t 15 m f fr, .cells [.map 2] t2, .amap es] =>
      some (.int .i64 (ixB (fun i => delF es (mgOf f i)) n), [(0, .row 56 15 n f false), (1, .cells [.map 2] 131), (2, .amap es)], t = 56 ∧ t2 = 131 ∧ fr = false ∧ n = m ∧ n ≤ 1000000 ∧ f = mgRow (mgOf f) ∧ EsOK es)
  | _, _ => none
def S_ixr (es : List (AV × AV)) (g : Nat → MG) (n k : Nat) : St := ⟨[(0, .own 0 n), (1, .func 108 [.ptr 1 0]), (7, .int .i64 n), (8, .int .i64 k)], [(0, .row 56 15 n (mgRow g) false), (1, .cells [.map 2] 131), (2, .amap es)], 3, []⟩
def L_ixr (es : List (AV × AV)) (g : Nat → MG) (n : Nat) : LSpec := fun st Q => canonIs te 3 [0, 1, 7, 8] st (S_ixr es g n 0) ∧ n ≤ 1000000 ∧ EsOK es ∧
  condP (decide (fstB (fun i => delF es (g i)) n < n)) (Q .ret ⟨[(4, .int .i64 (fstB (fun i => delF es (g i)) n))], [(0, .row 56 15 n (mgRow g) false), (1, .cells [.map 2] 131), (2, .amap es)], 3, []⟩)
    (Q (.exit 0) ⟨[], [(0, .row 56 15 n (mgRow g) false), (1, .cells [.map 2] 131), (2, .amap es)], 3, []⟩)
def kpL (es : List (AV × AV)) (g : Nat → MG) (n : Nat) : List MG := (lst g n).filter fun x => !delF es x
def R_delF : RSpec
  | [.own 0 n, .func 108 [.ptr 1 0]], [.row t 15 m f fr, .cells [.map 2] t2, .amap es], R => t = 56 ∧ t2 = 131 ∧ fr = false ∧ n = m ∧ n ≤ 1000000 ∧ f = mgRow (mgOf f) ∧ EsOK es ∧
      ∀ (k : Nat) (h : Nat → MG), lst h k = kpL es (mgOf f) n → R (.own 0 k) [(0, .row 56 15 k (mgRow h) false), (1, .cells [.map 2] 131), (2, .amap es)]
  | _, _, _ => False
def S_df (es : List (AV × AV)) (n : Nat) (i : CI) : St := ⟨[(0, .own 0 n), (1, .func 108 [.ptr 1 0]), (5, .int .i64 i.w), (6, .int .i64 i.k)], [(0, .row 56 15 n (mgRow i.h) false), (1, .cells [.map 2] 131), (2, .amap es)], 3, []⟩
def L_df (es : List (AV × AV)) (g : Nat → MG) (n i0 : Nat) : LSpec := fun st Q => canonIs te 3 [0, 1, 5, 6] st (S_df es n ⟨i0 + 1, i0, g⟩) ∧ (i0 < n ∧ n ≤ 1000000) ∧ EsOK es ∧ (∀ j, j < i0 → delF es (g j) = false) ∧ delF es (g i0) = true ∧
  ∀ (w : Nat) (h : Nat → MG), w ≤ n → lst h w = kpL es g n → Q (.exit 0) ⟨[(0, .own 0 n), (5, .int .i64 w)], [(0, .row 56 15 n (mgRow h) false), (1, .cells [.map 2] 131), (2, .amap es)], 3, []⟩
end Go.Eng
namespace Go.Eng
def noM : Nat → MG := fun _ => default
def rightL (g : Nat → MG) (n : Nat) : List MG := (mrgL g n noM 0).filter fun x => !decide (1 < numC (atM (mrgL g n noM 0)) (mk2 x) (mrgL g n noM 0).length)
def S_mrgN : Spec
  | [.view 15 n f, .nil], [] => some (.own 0 (mrgL (mgOf f) n noM 0).length, [(0, .row 56 15 (mrgL (mgOf f) n noM 0).length (mgRow (atM (mrgL (mgOf f) n noM 0))) false)],
      n ≤ 100000 ∧ f = mgRow (mgOf f) ∧ ∀ i, i < n → (mgOf f i).Sm)
  | _, _ => none
def S_right : Spec
  | [.view 15 n f], [] => some (.view 15 (rightL (mgOf f) n).length (mgRow (atM (rightL (mgOf f) n))), [], n ≤ 100000 ∧ f = mgRow (mgOf f) ∧ ∀ i, i < n → (mgOf f i).Sm)
  | _, _ => none
end Go.Eng
namespace Go.Eng
def selF (o p : List UInt8) (per : Int) (m : MG) : Bool := decide (m.kind = 1) && (decide (m.v.o = o) && (decide (m.v.p = p) && decide (m.v.per = per)))
def stpC (L : List MG) (m : MG) : List MG := bif decide (0 < L.length) && decide ((atM L (L.length - 1)).dev = m.dev) then L.take (L.length - 1) ++ [m] else L ++ [m]
def canL (o p : List UInt8) (per : Int) (g : Nat → MG) : Nat → List MG
  | 0 => []
  | k + 1 => bif selF o p per (g k) then stpC (canL o p per g k) (g k) else canL o p per g k
def S_cand : Spec
  | [.view 15 n f, .str o, .str p, .int .i64 per], [] => some (.view 15 (canL o p per (mgOf f) n).length (mgRow (atM (canL o p per (mgOf f) n))), [], n ≤ 1000000 ∧ f = mgRow (mgOf f))
  | _, _ => none
def S_cnd (o p : List UInt8) (per : Int) (g : Nat → MG) (n k : Nat) : St := ⟨[(1, .str o), (2, .str p), (3, .int .i64 per), (9, .own 0 (canL o p per g k).length), (13, .view 15 n (mgRow g)), (14, .int .i64 n), (15, .int .i64 k)], [(0, .row 56 15 (canL o p per g k).length (mgRow (atM (canL o p per g k))) false)], 1, []⟩
def L_cnd (o p : List UInt8) (per : Int) (g : Nat → MG) (n : Nat) : LSpec := fun st Q => canonIs te 0 [1, 2, 3, 9, 13, 14, 15] (ownNil 9 56 15 st) (S_cnd o p per g n 0) ∧ n ≤ 1000000 ∧
  Q (.exit 0) ⟨[(9, .own 0 (canL o p per g n).length)], [(0, .row 56 15 (canL o p per g n).length (mgRow (atM (canL o p per g n))) false)], 1, []⟩
end Go.Eng
namespace Go.Eng
def difF (x : VT) (m : MG) : Bool := !decide (m.v.st = x.st) || (!decide (m.v.pr = x.pr) || !decide (m.v.rep = x.rep))
def namF (x : DT) (m : MG) : Bool := decide (m.dev = x.dev) && decide (m.seq = x.num)
def S_rs1 : Spec
  | [.agg [.str dev, .int .i64 seq, .int .i64 kind, .str o, .str p, .int .i64 per, .int .i64 day, .int .i64 st, .int .i64 pr, .str rep, .str o', .str p', .int .i64 per', .str dev', .int .i64 num], .ptr 0 0], [.cells [.str xo, .str xp, .int .i64 xper, .int .i64 xday, .int .i64 xst, .int .i64 xpr, .str xrep] t] => some (.bool (difF ⟨xo, xp, xper, xday, xst, xpr, xrep⟩ ⟨dev, seq, kind, ⟨o, p, per, day, st, pr, rep⟩, ⟨o', p', per', dev', num⟩⟩), [(0, .cells [.str xo, .str xp, .int .i64 xper, .int .i64 xday, .int .i64 xst, .int .i64 xpr, .str xrep] 52)], t = 52)
  | _, _ => none
def S_ix1 : Spec
  | [.view 15 n f, .func 80 [.ptr 0 0]], [.cells [.str xo, .str xp, .int .i64 xper, .int .i64 xday, .int .i64 xst, .int .i64 xpr, .str xrep] t] => some (.int .i64 (ixB (fun i => difF ⟨xo, xp, xper, xday, xst, xpr, xrep⟩ (mgOf f i)) n), [(0, .cells [.str xo, .str xp, .int .i64 xper, .int .i64 xday, .int .i64 xst, .int .i64 xpr, .str xrep] 52)], t = 52 ∧ n ≤ 1000000 ∧ f = mgRow (mgOf f))
  | _, _ => none
def S_ixs1 (x : VT) (g : Nat → MG) (n k : Nat) : St := ⟨[(0, .view 15 n (mgRow g)), (1, .func 80 [.ptr 0 0]), (7, .int .i64 n), (8, .int .i64 k)], [(0, .cells [.str x.o, .str x.p, .int .i64 x.per, .int .i64 x.day, .int .i64 x.st, .int .i64 x.pr, .str x.rep] 52)], 1, []⟩
def L_ixs1 (x : VT) (g : Nat → MG) (n : Nat) : LSpec := fun st Q => canonIs te 1 [0, 1, 7, 8] st (S_ixs1 x g n 0) ∧ n ≤ 1000000 ∧
  condP (decide (fstB (fun i => difF x (g i)) n < n)) (Q .ret ⟨[(4, .int .i64 (fstB (fun i => difF x (g i)) n))], [(0, .cells [.str x.o, .str x.p, .int .i64 x.per, .int .i64 x.day, .int .i64 x.st, .int .i64 x.pr, .str x.rep] 52)], 1, []⟩) (Q (.exit 0) ⟨[], [(0, .cells [.str x.o, .str x.p, .int .i64 x.per, .int .i64 x.day, .int .i64 x.st, .int .i64 x.pr, .str x.rep] 52)], 1, []⟩)
def S_rs2 : Spec
  | [.agg [.str dev, .int .i64 seq, .int .i64 kind, .str o, .str p, .int .i64 per, .int .i64 day, .int .i64 st, .int .i64 pr, .str rep, .str o', .str p', .int .i64 per', .str dev', .int .i64 num], .ptr 0 0], [.cells [.str xo, .str xp, .int .i64 xper, .str xdev, .int .i64 xnum] t] => some (.bool (namF ⟨xo, xp, xper, xdev, xnum⟩ ⟨dev, seq, kind, ⟨o, p, per, day, st, pr, rep⟩, ⟨o', p', per', dev', num⟩⟩), [(0, .cells [.str xo, .str xp, .int .i64 xper, .str xdev, .int .i64 xnum] 54)], t = 54)
  | _, _ => none
def S_ix2 : Spec
  | [.view 15 n f, .func 82 [.ptr 0 0]], [.cells [.str xo, .str xp, .int .i64 xper, .str xdev, .int .i64 xnum] t] => some (.int .i64 (ixB (fun i => namF ⟨xo, xp, xper, xdev, xnum⟩ (mgOf f i)) n), [(0, .cells [.str xo, .str xp, .int .i64 xper, .str xdev, .int .i64 xnum] 54)], t = 54 ∧ n ≤ 1000000 ∧ f = mgRow (mgOf f))
  | _, _ => none
def S_ixs2 (x : DT) (g : Nat → MG) (n k : Nat) : St := ⟨[(0, .view 15 n (mgRow g)), (1, .func 82 [.ptr 0 0]), (7, .int .i64 n), (8, .int .i64 k)], [(0, .cells [.str x.o, .str x.p, .int .i64 x.per, .str x.dev, .int .i64 x.num] 54)], 1, []⟩
def L_ixs2 (x : DT) (g : Nat → MG) (n : Nat) : LSpec := fun st Q => canonIs te 1 [0, 1, 7, 8] st (S_ixs2 x g n 0) ∧ n ≤ 1000000 ∧
  condP (decide (fstB (fun i => namF x (g i)) n < n)) (Q .ret ⟨[(4, .int .i64 (fstB (fun i => namF x (g i)) n))], [(0, .cells [.str x.o, .str x.p, .int .i64 x.per, .str x.dev, .int .i64 x.num] 54)], 1, []⟩) (Q (.exit 0) ⟨[], [(0, .cells [.str x.o, .str x.p, .int .i64 x.per, .str x.dev, .int .i64 x.num] 54)], 1, []⟩)
def S_cf1 : Spec
  | [.view 15 n f, .func 80 [.ptr 0 0]], [.cells [.str xo, .str xp, .int .i64 xper, .int .i64 xday, .int .i64 xst, .int .i64 xpr, .str xrep] t] => some (.bool (decide (0 ≤ ixB (fun i => difF ⟨xo, xp, xper, xday, xst, xpr, xrep⟩ (mgOf f i)) n)), [(0, .cells [.str xo, .str xp, .int .i64 xper, .int .i64 xday, .int .i64 xst, .int .i64 xpr, .str xrep] 52)], t = 52 ∧ n ≤ 1000000 ∧ f = mgRow (mgOf f))
  | _, _ => none
end Go.Eng
namespace Go.Eng
def zeroVT : VT := ⟨[], [], 0, 0, 0, 0, []⟩
def decOK (o p : List UInt8) (per q : Int) (m : MG) : Bool := decide (m.kind = 2) && (decide (m.d.o = o) && (decide (m.d.p = p) && (decide (m.d.per = per) && !decide (m.seq < q))))
def dcF (o p : List UInt8) (per : Int) (C : List MG) (g : Nat → MG) : Nat → VT × Int
  | 0 => (zeroVT, -1)
  | k + 1 => bif decOK o p per (dcF o p per C g k).2 (g k) && decide (fstB (fun i => namF (g k).d (atM C i)) C.length < C.length) then ((atM C (fstB (fun i => namF (g k).d (atM C i)) C.length)).v, (g k).seq) else dcF o p per C g k
def resR (o p : List UInt8) (per : Int) (R C : List MG) : VT × Int :=
  bif decide (C.length = 0) then (zeroVT, 0) else bif decide (0 ≤ ixB (fun i => difF (atM C 0).v (atM C i)) C.length) then
    (bif decide ((dcF o p per C (atM R) R.length).2 < 0) then (zeroVT, 2) else ((dcF o p per C (atM R) R.length).1, 1)) else ((atM C 0).v, 1)
def resF (g : Nat → MG) (n : Nat) (o p : List UInt8) (per : Int) : VT × Int := resR o p per (rightL g n) (canL o p per (atM (rightL g n)) (rightL g n).length)
def S_resolve : Spec
  | [.view 15 n f, .str o, .str p, .int .i64 per], [] =>
      some (.tuple [.agg [.str (resF (mgOf f) n o p per).1.o, .str (resF (mgOf f) n o p per).1.p, .int .i64 (resF (mgOf f) n o p per).1.per, .int .i64 (resF (mgOf f) n o p per).1.day, .int .i64 (resF (mgOf f) n o p per).1.st, .int .i64 (resF (mgOf f) n o p per).1.pr, .str (resF (mgOf f) n o p per).1.rep], .int .i64 (resF (mgOf f) n o p per).2], [],
        n ≤ 100000 ∧ f = mgRow (mgOf f) ∧ ∀ i, i < n → (mgOf f i).Sm)
  | _, _ => none
def S_rl (o p : List UInt8) (per : Int) (C R : List MG) (k : Nat) : St := ⟨[(1, .str o), (2, .str p), (3, .int .i64 per), (8, .ptr 0 0), (11, .view 15 C.length (mgRow (atM C))), (13, .ptr 1 0), (14, .int .i64 (dcF o p per C (atM R) k).2), (40, .view 15 R.length (mgRow (atM R))), (41, .int .i64 R.length), (42, .int .i64 k)],
  [(0, .cells [.str [], .str [], .int .i64 0, .int .i64 0, .int .i64 0, .int .i64 0, .str []] 52), (1, .cells [.str (dcF o p per C (atM R) k).1.o, .str (dcF o p per C (atM R) k).1.p, .int .i64 (dcF o p per C (atM R) k).1.per, .int .i64 (dcF o p per C (atM R) k).1.day, .int .i64 (dcF o p per C (atM R) k).1.st, .int .i64 (dcF o p per C (atM R) k).1.pr, .str (dcF o p per C (atM R) k).1.rep] 52)], 2, []⟩
def L_rl (o p : List UInt8) (per : Int) (C R : List MG) : LSpec := fun st Q => canonIs te 0 [1, 2, 3, 8, 11, 13, 14, 40, 41, 42] st (S_rl o p per C R 0) ∧ R.length ≤ 1000000 ∧ C.length ≤ 1000000 ∧
  Q (.exit 0) ⟨[(8, .ptr 0 0), (13, .ptr 1 0), (14, .int .i64 (dcF o p per C (atM R) R.length).2)], [(0, .cells [.str [], .str [], .int .i64 0, .int .i64 0, .int .i64 0, .int .i64 0, .str []] 52),
    (1, .cells [.str (dcF o p per C (atM R) R.length).1.o, .str (dcF o p per C (atM R) R.length).1.p, .int .i64 (dcF o p per C (atM R) R.length).1.per, .int .i64 (dcF o p per C (atM R) R.length).1.day, .int .i64 (dcF o p per C (atM R) R.length).1.st, .int .i64 (dcF o p per C (atM R) R.length).1.pr, .str (dcF o p per C (atM R) R.length).1.rep] 52)], 2, []⟩
end Go.Eng
namespace Go.Proofs
open Go.Shelf
def Tryz.grow100_ren : Go.Shelf.Ren := ⟨fun | 4 => 100 | n => n, fun | 22 => 58 | 25 => 56 | 3 => 3 | 4 => 4 | 9 => 9 | 20 => 20 | 0 => 0 | n => n, fun | n => n⟩
theorem Tryz.grow100 : Go.Proofs.Lays8.n4 Tryz.prog Tryz.grow100_ren := {
  mixed := by kernel_rfl
  f4 := ⟨Tryz.f100.name, by decide, Tryz.func100.trans (congrArg some (by kernel_rfl))⟩
  t0 := Tryz.underlying0
  a0 := Tryz.isAgg0
  z0 := Tryz.sizeOf0
  v0 := Tryz.zeroValue0
  t3 := Tryz.underlying3
  a3 := Tryz.isAgg3
  z3 := Tryz.sizeOf3
  v3 := Tryz.zeroValue3
  t4 := Tryz.underlying4
  a4 := Tryz.isAgg4
  z4 := Tryz.sizeOf4
  v4 := Tryz.zeroValue4
  t9 := Tryz.underlying9
  a9 := Tryz.isAgg9
  z9 := Tryz.sizeOf9
  v9 := Tryz.zeroValue9
  t20 := Tryz.underlying20
  a20 := Tryz.isAgg20
  z20 := Tryz.sizeOf20
  v20 := Tryz.zeroValue20
  t22 := Tryz.underlying58
  a22 := Tryz.isAgg58
  z22 := Tryz.sizeOf58
  v22 := Tryz.zeroValue58 }
end Go.Proofs
namespace Go.Eng
open Go.Proofs Go.RowKit
variable {C : Ctx} [C.Loose]
set_option maxRecDepth 20000
theorem grow_ok (hP : C.P = Tryz.prog) : RSpecOK C 100 R_grow := by
  have _ : C.Loose := inferInstance
  rintro args objs R h
  unfold R_grow at h
  split at h
  · rename_i n
    obtain ⟨h0, hn, hz, hp⟩ := h
    refine ⟨⟨_, hP ▸ Tryz.func100, rfl, by decide⟩, fun E bs w cargs h1 h2 h3 hW h5 h6 h7 => ?_⟩
    obtain ⟨a, b, rfl⟩ : ∃ a b, cargs = [a, b] := by
      match cargs, h6 with
      | [a, b], _ => exact ⟨a, b, rfl⟩
    have V0 := h7 0 _ _ rfl rfl
    have V1 := (h7 1 _ _ rfl rfl).int_iff
    subst V1
    generalize hu : AV.nil = u at V0
    cases V0 <;> cases hu
    have hO : lkL [] = lk [] := by funext i; rfl
    rw [hO] at hW
    obtain ⟨m, rfl⟩ : ∃ m : Nat, n = (m : Int) := ⟨n.toNat, by omega⟩
    rcases Nat.eq_zero_or_pos m with rfl | hm
    · refine Calls.mono (hP ▸ Any8.slices_Grow_room Tryz.grow100 none 0 0 0 w (by omega) (by omega) (by omega) (by omega)) ?_
      rintro e w' ⟨rfl, rfl⟩
      exact ⟨_, .nil, [], bs, rfl, hz rfl, hW, .nil, fun r _ => ⟨rfl, h5 r (Nat.zero_le _)⟩⟩
    · obtain ⟨i, hi, hisz, hib, hiz⟩ := ((prg hP).ok 56 _ rfl).2.1
      have hbytes : i.bytes ≤ 1000 := by rw [hib]; decide
      have hs15 : i.size = 15 := hisz
      have hmul : (0 + m) * i.bytes ≤ 140737488355328 := Nat.le_trans (Nat.mul_le_mul (show 0 + m ≤ 1000000 by omega) hbytes) (by decide)
      have hc := Any8.slices_Grow_grow Tryz.grow100 i _ (hP ▸ hi) hiz (by omega) none 0 0 m [] w (by omega) (by omega) hmul (by omega) (by simp) (fun _ => rfl) (fun a h => by cases h)
      have hcap := grownCap_ge w (0 + m) 0 56
      have hmax := grownCap_le_maxLen w (0 + m) 0 56 (by unfold maxLen; omega)
      have c1 := h5 0 (Nat.zero_le _)
      have key : ∀ vs : Array Value, vs.size = grownCap w (0 + m) 0 56 * 15 → ∃ v u O' bs', (Ending.returned (.slice (some ⟨w.heap.size, 0, none⟩) 0 (grownCap w (0 + m) 0 56))) = .returned v ∧ R u O' ∧ WRep C E (lk O') bs' (w.drew.alloc (.cells vs 56)) ∧ V (w.drew.alloc (.cells vs 56)) (MB E (lk O') bs') bs' v u ∧ ∀ r, 0 + 16 ≤ r → lk O' r = none ∧ bs' r = none := by
        intro vs hvs
        obtain ⟨k1, k2⟩ := new_row hW c1 (w1 := w.drew) rfl rfl ⟨rfl, fun _ => Nat.le_succ _⟩ rfl (vs := vs) (e := 56) (sz := 15) (n := 0) (c := grownCap w (0 + m) 0 56) (f := fun _ => []) (Nat.zero_le _) hmax hvs
          (fun i hi => absurd hi (Nat.not_lt_zero _)) (fun i hi => absurd hi (Nat.not_lt_zero _)) (fun i hi => absurd hi (Nat.not_lt_zero _))
        have e1 : up (lk []) 0 (AObj.row 56 15 0 (fun _ => []) false) = lk [(0, .row 56 15 0 (fun _ => []) false)] := by
          funext r
          rw [lk_cons]
          by_cases h : 0 = r
          · subst h; rw [up_same, if_pos rfl]
          · rw [up_other _ _ _ h, if_neg h]
        rw [e1] at k2
        refine ⟨_, .own 0 0, [(0, .row 56 15 0 (fun _ => []) false)], up bs 0 (.blk w.heap.size (grownCap w (0 + m) 0 56)), rfl, hp (by omega), k2, .own (up_same _ _ _) (Nat.zero_le _) hmax, fun r hr => ?_⟩
        exact ⟨by rw [lk_cons, if_neg (by omega)]; rfl, by rw [up_other _ _ _ (by omega)]; exact h5 r (Nat.zero_le _)⟩
      refine Calls.mono (hP ▸ hc) ?_
      rintro e w' ⟨rfl, rfl⟩
      refine key _ ?_
      generalize hz15 : Value.cells _ = zc
      have hz15 : zc.size = 15 := by rw [← hz15]; rfl
      have hcap : 0 + m ≤ grownCap w (0 + m) 0 56 := hcap
      show (#[] ++ Builtin.zeroCells zc (0 + m - 0) ++ Builtin.zeroCells zc (grownCap w (0 + m) 0 56 - (0 + m))).size = _
      rw [Array.size_append, Array.size_append, size_zeroCells, size_zeroCells, hz15]
      simp only [Array.size_empty]
      omega
  · exact h.elim
end Go.Eng
