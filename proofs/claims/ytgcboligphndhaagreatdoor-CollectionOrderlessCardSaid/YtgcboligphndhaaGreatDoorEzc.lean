/- The row's arguments: messages, read as data. -/
import Derived.Test.YtgcboligphndhaaGreatDoorEza
import Derived.Test.YtgcboligphndhaaGreatDoorCards
import Derived.Test.YtgcboligphndhaaGreatDoorTie
import Derived.SevenTiedAt
import Derived.Test.YtgcboligphndhaaGreatDoorEo
namespace Go.Proofs.YtgcboligphndhaaGreatDoor
open Go
def harB : Bool × String := (true, "40fb3bd35b79f194dc6e91eb15eecf1db62dc7e1bded180275d4dc3755fccfaf")
set_option maxRecDepth 100000 in
theorem mainB : Tryz.prog.mainIs = some (harB.1, harB.2.toList) := by kernel_rfl
set_option maxRecDepth 100000 in
theorem looksB : true = Tryz.prog.looks [] := by kernel_rfl
end Go.Proofs.YtgcboligphndhaaGreatDoor
namespace Go.Eng
open Go.Proofs Go.RowKit
variable {H : Type} {enc : TypeId × Value → H} {W : World}
def txV (v : Option Value) : List UInt8 := match v with
  | some (.string s) => s.data.toList
  | _ => []
def nuV (v : Option Value) : Int := match v with
  | some (.int .i64 z) => z
  | _ => 0
end Go.Eng
namespace Go.Eng
open Go.Proofs Go.RowKit
variable {H : Type} {enc : TypeId × Value → H} {W : World}
theorem undM : Tryz.prog.underlying 40 = some (.struct (fsOf 40)) := by kernel_rfl
theorem undMV : Tryz.prog.underlying 36 = some (.struct (fsOf 36)) := by kernel_rfl
theorem undMD : Tryz.prog.underlying 38 = some (.struct (fsOf 38)) := by kernel_rfl
theorem undMs : Tryz.prog.underlying 22 = some (.slice 40) := by kernel_rfl
theorem cM : Tryz.prog.cellsOf 40 = 15 := by kernel_rfl
theorem cMV : Tryz.prog.cellsOf 36 = 7 := by kernel_rfl
theorem cMD : Tryz.prog.cellsOf 38 = 5 := by kernel_rfl
theorem list15 {l : List Value} (h : l.length = 15) : ∃ a0 a1 a2 a3 a4 a5 a6 a7 a8 a9 a10 a11 a12 a13 a14, l = [a0, a1, a2, a3, a4, a5, a6, a7, a8, a9, a10, a11, a12, a13, a14] := by
  match l, h with
  | [a0, a1, a2, a3, a4, a5, a6, a7, a8, a9, a10, a11, a12, a13, a14], _ => exact ⟨a0, a1, a2, a3, a4, a5, a6, a7, a8, a9, a10, a11, a12, a13, a14, rfl⟩
theorem read_msg0 {fuel : Nat} {cs : List Value} {x : DataW H × List MemPlace} {sp : Nat → Bool} {hd : Bool} (h : DataW.trod enc Tryz.prog W 0 sp hd fuel 40 cs = some x) :
    ∃ (s0 s3 s4 s9 s10 s11 s13 : ByteArray) (i1 i2 i5 i6 i7 i8 i12 i14 : Int), cs = [.string s0, .int .i64 i1, .int .i64 i2, .string s3, .string s4, .int .i64 i5, .int .i64 i6, .int .i64 i7, .int .i64 i8, .string s9, .string s10, .string s11, .int .i64 i12, .string s13, .int .i64 i14] := by
  obtain ⟨xs, n, rfl, _, hc, hl, hf⟩ := DataW.trod_struct undM h
  rw [cM] at hc
  obtain ⟨a0, a1, a2, a3, a4, a5, a6, a7, a8, a9, a10, a11, a12, a13, a14, rfl⟩ := list15 hc
  obtain ⟨y0, h0⟩ := field hl hf 0 9 0 (by kernel_rfl)
  obtain ⟨y1, h1⟩ := field hl hf 1 3 1 (by kernel_rfl)
  obtain ⟨y2, h2⟩ := field hl hf 2 3 2 (by kernel_rfl)
  obtain ⟨y3, h3⟩ := field hl hf 3 36 3 (by kernel_rfl)
  obtain ⟨y4, h4⟩ := field hl hf 4 38 10 (by kernel_rfl)
  rw [cS] at h0
  rw [cI] at h1 h2
  rw [cMV] at h3
  rw [cMD] at h4
  have h3 : DataW.trod enc Tryz.prog W 0 sp hd n 36 [a3, a4, a5, a6, a7, a8, a9] = some y3 := h3
  have h4 : DataW.trod enc Tryz.prog W 0 sp hd n 38 [a10, a11, a12, a13, a14] = some y4 := h4
  obtain ⟨xv, nv, _, _, _, lv, fv⟩ := DataW.trod_struct undMV h3
  obtain ⟨xd, nd, _, _, _, ld, fd⟩ := DataW.trod_struct undMD h4
  obtain ⟨z3, g3⟩ := field lv fv 0 9 0 (by kernel_rfl)
  rw [cS] at g3
  obtain ⟨z4, g4⟩ := field lv fv 1 9 1 (by kernel_rfl)
  rw [cS] at g4
  obtain ⟨z5, g5⟩ := field lv fv 2 3 2 (by kernel_rfl)
  rw [cI] at g5
  obtain ⟨z6, g6⟩ := field lv fv 3 3 3 (by kernel_rfl)
  rw [cI] at g6
  obtain ⟨z7, g7⟩ := field lv fv 4 3 4 (by kernel_rfl)
  rw [cI] at g7
  obtain ⟨z8, g8⟩ := field lv fv 5 2 5 (by kernel_rfl)
  rw [cI2] at g8
  obtain ⟨z9, g9⟩ := field lv fv 6 9 6 (by kernel_rfl)
  rw [cS] at g9
  obtain ⟨z10, g10⟩ := field ld fd 0 9 0 (by kernel_rfl)
  rw [cS] at g10
  obtain ⟨z11, g11⟩ := field ld fd 1 9 1 (by kernel_rfl)
  rw [cS] at g11
  obtain ⟨z12, g12⟩ := field ld fd 2 3 2 (by kernel_rfl)
  rw [cI] at g12
  obtain ⟨z13, g13⟩ := field ld fd 3 9 3 (by kernel_rfl)
  rw [cS] at g13
  obtain ⟨z14, g14⟩ := field ld fd 4 3 4 (by kernel_rfl)
  rw [cI] at g14
  obtain ⟨s0, e0, _⟩ := DataW.trod_string undS h0
  obtain ⟨i1, e1, _⟩ := DataW.trod_int undI h1
  obtain ⟨i2, e2, _⟩ := DataW.trod_int undI h2
  obtain ⟨s3, e3, _⟩ := DataW.trod_string undS g3
  obtain ⟨s4, e4, _⟩ := DataW.trod_string undS g4
  obtain ⟨i5, e5, _⟩ := DataW.trod_int undI g5
  obtain ⟨i6, e6, _⟩ := DataW.trod_int undI g6
  obtain ⟨i7, e7, _⟩ := DataW.trod_int undI g7
  obtain ⟨i8, e8, _⟩ := DataW.trod_int undI2 g8
  obtain ⟨s9, e9, _⟩ := DataW.trod_string undS g9
  obtain ⟨s10, e10, _⟩ := DataW.trod_string undS g10
  obtain ⟨s11, e11, _⟩ := DataW.trod_string undS g11
  obtain ⟨i12, e12, _⟩ := DataW.trod_int undI g12
  obtain ⟨s13, e13, _⟩ := DataW.trod_string undS g13
  obtain ⟨i14, e14, _⟩ := DataW.trod_int undI g14
  simp at e0 e1 e2 e3 e4 e5 e6 e7 e8 e9 e10 e11 e12 e13 e14
  exact ⟨s0, s3, s4, s9, s10, s11, s13, i1, i2, i5, i6, i7, i8, i12, i14, by rw [e0, e1, e2, e3, e4, e5, e6, e7, e8, e9, e10, e11, e12, e13, e14]⟩
theorem read_msgs {fuel : Nat} {cs : List Value} {x : DataW H × List MemPlace} {sp : Nat → Bool} {hd : Bool} (h : DataW.trod enc Tryz.prog W 0 sp hd fuel 22 cs = some x) :
    ∃ (A : Option Addr) (n c : Nat) (g : Nat → MG), cs = [.slice A n c] ∧ V W (fun _ => False) nob (.slice A n c) (.view 15 n (mgRow g)) := by
  rcases DataW.trod_slice undMs h with ⟨rfl, _⟩ | ⟨a, len, cap, elems, rest, n, _, rfl, _, hb, hl, hm, hlen, hel, _⟩
  · exact ⟨none, 0, 0, fun _ => default, rfl, V_view _ (Nat.le_refl _) (Nat.zero_le _) (fun i hi => by omega) (.inl rfl)⟩
  · have hat : ∀ i, i < len → ∃ (s0 s3 s4 s9 s10 s11 s13 : ByteArray) (i1 i2 i5 i6 i7 i8 i12 i14 : Int), W.cell? (a.add (i * 15 + 0)) = some (.string s0) ∧ W.cell? (a.add (i * 15 + 1)) = some (.int .i64 i1) ∧ W.cell? (a.add (i * 15 + 2)) = some (.int .i64 i2) ∧ W.cell? (a.add (i * 15 + 3)) = some (.string s3) ∧ W.cell? (a.add (i * 15 + 4)) = some (.string s4) ∧ W.cell? (a.add (i * 15 + 5)) = some (.int .i64 i5) ∧ W.cell? (a.add (i * 15 + 6)) = some (.int .i64 i6) ∧ W.cell? (a.add (i * 15 + 7)) = some (.int .i64 i7) ∧ W.cell? (a.add (i * 15 + 8)) = some (.int .i64 i8) ∧ W.cell? (a.add (i * 15 + 9)) = some (.string s9) ∧ W.cell? (a.add (i * 15 + 10)) = some (.string s10) ∧ W.cell? (a.add (i * 15 + 11)) = some (.string s11) ∧ W.cell? (a.add (i * 15 + 12)) = some (.int .i64 i12) ∧ W.cell? (a.add (i * 15 + 13)) = some (.string s13) ∧ W.cell? (a.add (i * 15 + 14)) = some (.int .i64 i14) := by
      intro i hi
      have h1 := hel i hi
      rw [cM, List.getElem?_eq_getElem (by omega), Option.bind_eq_some_iff] at h1
      obtain ⟨cs', hcs, hy⟩ := h1
      obtain ⟨s0, s3, s4, s9, s10, s11, s13, i1, i2, i5, i6, i7, i8, i12, i14, rfl⟩ := read_msg0 hy
      obtain ⟨_, _, h2⟩ := World.cells?_some hcs
      have q0 := h2 0 (by omega)
      have q1 := h2 1 (by omega)
      have q2 := h2 2 (by omega)
      have q3 := h2 3 (by omega)
      have q4 := h2 4 (by omega)
      have q5 := h2 5 (by omega)
      have q6 := h2 6 (by omega)
      have q7 := h2 7 (by omega)
      have q8 := h2 8 (by omega)
      have q9 := h2 9 (by omega)
      have q10 := h2 10 (by omega)
      have q11 := h2 11 (by omega)
      have q12 := h2 12 (by omega)
      have q13 := h2 13 (by omega)
      have q14 := h2 14 (by omega)
      rw [addr_add] at q0 q1 q2 q3 q4 q5 q6 q7 q8 q9 q10 q11 q12 q13 q14
      exact ⟨s0, s3, s4, s9, s10, s11, s13, i1, i2, i5, i6, i7, i8, i12, i14, q0, q1, q2, q3, q4, q5, q6, q7, q8, q9, q10, q11, q12, q13, q14⟩
    refine ⟨some a, len, cap, fun i => ⟨txV (W.cell? (a.add (i * 15 + 0))), nuV (W.cell? (a.add (i * 15 + 1))), nuV (W.cell? (a.add (i * 15 + 2))), ⟨txV (W.cell? (a.add (i * 15 + 3))), txV (W.cell? (a.add (i * 15 + 4))), nuV (W.cell? (a.add (i * 15 + 5))), nuV (W.cell? (a.add (i * 15 + 6))), nuV (W.cell? (a.add (i * 15 + 7))), nuV (W.cell? (a.add (i * 15 + 8))), txV (W.cell? (a.add (i * 15 + 9)))⟩, ⟨txV (W.cell? (a.add (i * 15 + 10))), txV (W.cell? (a.add (i * 15 + 11))), nuV (W.cell? (a.add (i * 15 + 12))), txV (W.cell? (a.add (i * 15 + 13))), nuV (W.cell? (a.add (i * 15 + 14)))⟩⟩, rfl, V_view _ hl hm (fun _ _ => rfl) ?_⟩
    by_cases h0 : len = 0
    · exact .inl h0
    · refine .inr ⟨a, rfl, ?_, fun i hi j hj => ?_⟩
      · have h1 := hel 0 (by omega)
        rw [List.getElem?_eq_getElem (show 0 < elems.length by omega), Option.bind_eq_some_iff] at h1
        obtain ⟨cs', hcs, _⟩ := h1
        rw [cM] at hcs
        have q := World.cells?_block hcs (by omega)
        rw [add_block] at q
        exact q
      · obtain ⟨s0, s3, s4, s9, s10, s11, s13, i1, i2, i5, i6, i7, i8, i12, i14, e0, e1, e2, e3, e4, e5, e6, e7, e8, e9, e10, e11, e12, e13, e14⟩ := hat i hi
        match j with
        | 0 =>
          refine ⟨_, e0, rfl, fun u hu => ?_⟩
          have hu : some (AV.str (txV (W.cell? (a.add (i * 15 + 0))))) = some u := hu
          rw [e0] at hu
          obtain rfl := Option.some.inj hu
          exact .str rfl
        | 1 =>
          refine ⟨_, e1, rfl, fun u hu => ?_⟩
          have hu : some (AV.int .i64 (nuV (W.cell? (a.add (i * 15 + 1))))) = some u := hu
          rw [e1] at hu
          obtain rfl := Option.some.inj hu
          exact .int
        | 2 =>
          refine ⟨_, e2, rfl, fun u hu => ?_⟩
          have hu : some (AV.int .i64 (nuV (W.cell? (a.add (i * 15 + 2))))) = some u := hu
          rw [e2] at hu
          obtain rfl := Option.some.inj hu
          exact .int
        | 3 =>
          refine ⟨_, e3, rfl, fun u hu => ?_⟩
          have hu : some (AV.str (txV (W.cell? (a.add (i * 15 + 3))))) = some u := hu
          rw [e3] at hu
          obtain rfl := Option.some.inj hu
          exact .str rfl
        | 4 =>
          refine ⟨_, e4, rfl, fun u hu => ?_⟩
          have hu : some (AV.str (txV (W.cell? (a.add (i * 15 + 4))))) = some u := hu
          rw [e4] at hu
          obtain rfl := Option.some.inj hu
          exact .str rfl
        | 5 =>
          refine ⟨_, e5, rfl, fun u hu => ?_⟩
          have hu : some (AV.int .i64 (nuV (W.cell? (a.add (i * 15 + 5))))) = some u := hu
          rw [e5] at hu
          obtain rfl := Option.some.inj hu
          exact .int
        | 6 =>
          refine ⟨_, e6, rfl, fun u hu => ?_⟩
          have hu : some (AV.int .i64 (nuV (W.cell? (a.add (i * 15 + 6))))) = some u := hu
          rw [e6] at hu
          obtain rfl := Option.some.inj hu
          exact .int
        | 7 =>
          refine ⟨_, e7, rfl, fun u hu => ?_⟩
          have hu : some (AV.int .i64 (nuV (W.cell? (a.add (i * 15 + 7))))) = some u := hu
          rw [e7] at hu
          obtain rfl := Option.some.inj hu
          exact .int
        | 8 =>
          refine ⟨_, e8, rfl, fun u hu => ?_⟩
          have hu : some (AV.int .i64 (nuV (W.cell? (a.add (i * 15 + 8))))) = some u := hu
          rw [e8] at hu
          obtain rfl := Option.some.inj hu
          exact .int
        | 9 =>
          refine ⟨_, e9, rfl, fun u hu => ?_⟩
          have hu : some (AV.str (txV (W.cell? (a.add (i * 15 + 9))))) = some u := hu
          rw [e9] at hu
          obtain rfl := Option.some.inj hu
          exact .str rfl
        | 10 =>
          refine ⟨_, e10, rfl, fun u hu => ?_⟩
          have hu : some (AV.str (txV (W.cell? (a.add (i * 15 + 10))))) = some u := hu
          rw [e10] at hu
          obtain rfl := Option.some.inj hu
          exact .str rfl
        | 11 =>
          refine ⟨_, e11, rfl, fun u hu => ?_⟩
          have hu : some (AV.str (txV (W.cell? (a.add (i * 15 + 11))))) = some u := hu
          rw [e11] at hu
          obtain rfl := Option.some.inj hu
          exact .str rfl
        | 12 =>
          refine ⟨_, e12, rfl, fun u hu => ?_⟩
          have hu : some (AV.int .i64 (nuV (W.cell? (a.add (i * 15 + 12))))) = some u := hu
          rw [e12] at hu
          obtain rfl := Option.some.inj hu
          exact .int
        | 13 =>
          refine ⟨_, e13, rfl, fun u hu => ?_⟩
          have hu : some (AV.str (txV (W.cell? (a.add (i * 15 + 13))))) = some u := hu
          rw [e13] at hu
          obtain rfl := Option.some.inj hu
          exact .str rfl
        | 14 =>
          refine ⟨_, e14, rfl, fun u hu => ?_⟩
          have hu : some (AV.int .i64 (nuV (W.cell? (a.add (i * 15 + 14))))) = some u := hu
          rw [e14] at hu
          obtain rfl := Option.some.inj hu
          exact .int
end Go.Eng
