/- The tied card of CollectionCandidates: its statement is 'CollectionCandidatesCardSaid' of the given cards. -/
import Derived.Test.YtokpcnppihgdlaaGreatDoorEy
import Derived.Test.YtokpcnppihgdlaaGreatDoorEw
import Derived.Test.YtokpcnppihgdlaaGreatDoorEza
import Derived.Test.YtokpcnppihgdlaaGreatDoorAa
import Derived.Test.YtokpcnppihgdlaaGreatDoorEzb
import Derived.Test.YtokpcnppihgdlaaGreatDoorEz
namespace Go.Eng
open Go.Proofs Go.RowKit
variable {C : Ctx} [C.Loose]
set_option maxRecDepth 20000
theorem nf_lca (na : Nat) (ga : Nat → MG) (o p : List UInt8) (per : Int) (n : Nat) (v : Nat → Int) (R : AV → List (Nat × AObj) → Prop) : wpFn te [(36, .rel R_list), (32, .det S_raw11), (47, .det S_outlet), (48, .det S_product), (27, .det S_next), (49, .det S_candR), (50, .det S_candR), (37, .det S_sameM), (35, .det S_awake11)] [] 0 Tryz.f13 [.view 15 na (mgRow ga), .str o, .str p, .int .i64 per, .view 1 n (intRow v)] [] R = (letI z6 := cutM (mgOf (mgRow ga)); letI z5 := (↑(List.length p) : Int); letI z4 := (↑(List.length o) : Int); letI z2 := (min na 12 ≤ 100000 ∧ mgRow z6 = mgRow (mgOf (mgRow z6)) ∧ ∀ (i : Nat), i < min na 12 → MG.Sm (mgOf (mgRow z6) i)); letI z1 := (candL (mgOf (mgRow z6)) (min na 12) (List.take (Int.toNat (min z4 (30 : Int))) o) (List.take (Int.toNat (min z5 (30 : Int))) p) per); letI z7 := mgOf (mgRow (atM z1)); 28 = 28 ∧ 1 = 1 ∧ intRow v = intRow (vInt (intRow v)) ∧ ((0 : Int) ≤ (0 : Int) ∧ (0 : Int) ≤ (4611686018427360000 : Int)) ∧ ∀ (c : Nat) (g : Nat → MG) (a' : Int), letI z3 := (c ≤ 100000 ∧ mgRow g = mgRow (mgOf (mgRow g)) ∧ ∀ (i : Nat), i < c → MG.Sm (mgOf (mgRow g) i)); letI z0 := (candL (mgOf (mgRow g)) c (outF (nextV n (vInt (intRow v)) a' (3 : Int))) (idF (nextV n (vInt (intRow v)) (a' + (1 : Int)) (4 : Int))) ((1440 : Int) + nextV n (vInt (intRow v)) (a' + (1 : Int) + (1 : Int)) (4 : Int))); letI z8 := mgOf (mgRow (atM z0)); c ≤ 12 → (0 : Int) ≤ a' ∧ a' ≤ (0 : Int) + (1100 : Int) → (∀ (j : Nat), j < c → MG.Sm (g j)) → mgRow ga = mgRow (mgOf (mgRow ga)) ∧ ((0 : Int) ≤ min z4 (30 : Int) ∧ min z4 (30 : Int) ≤ z4) ∧ ((0 : Int) ≤ min z5 (30 : Int) ∧ min z5 (30 : Int) ≤ z5) ∧ (28 = 28 ∧ 1 = 1 ∧ intRow v = intRow (vInt (intRow v)) ∧ (0 : Int) ≤ a' ∧ a' ≤ (4611686018427387000 : Int)) ∧ (28 = 28 ∧ 1 = 1 ∧ intRow v = intRow (vInt (intRow v)) ∧ (0 : Int) ≤ a' + (1 : Int) ∧ a' + (1 : Int) ≤ (4611686018427387000 : Int)) ∧ (28 = 28 ∧ 1 = 1 ∧ intRow v = intRow (vInt (intRow v)) ∧ ((1 : Int) ≤ (4 : Int) ∧ (4 : Int) ≤ (1000000 : Int)) ∧ (0 : Int) ≤ a' + (1 : Int) + (1 : Int) ∧ a' + (1 : Int) + (1 : Int) ≤ (4611686018427387904 : Int)) ∧ inR .i64 ((1440 : Int) + nextV n (vInt (intRow v)) (a' + (1 : Int) + (1 : Int)) (4 : Int)) ∧ z2 ∧ z2 ∧ (List.length z1 ≤ 1000000 ∧ mgRow (atM z1) = mgRow z7 ∧ mgRow (atM z1) = mgRow z7) ∧ condP (decide (List.length z1 = List.length z1) && eqMs z7 z7 (List.length z1)) (z3 ∧ z3 ∧ (List.length z0 ≤ 1000000 ∧ mgRow (atM z0) = mgRow z8 ∧ mgRow (atM z0) = mgRow z8) ∧ condP (decide (List.length z0 = List.length z0) && eqMs z8 z8 (List.length z0)) (True ∧ R (.bool true) []) (R (.bool false) [])) (R (.bool false) [])) := by kernel_rfl
theorem lca_ok (hP : C.P = Tryz.prog) (hL : ∀ w, C.laid w → LaidW w) (na : Nat) (ga : Nat → MG) (o p : List UInt8) (per : Int) (n : Nat) (v : Nat → Int) : ADet C 13 [.view 15 na (mgRow ga), .str o, .str p, .int .i64 per, .view 1 n (intRow v)] [] (.bool true) [] := by
  refine SpecOK.wpL (prg hP) [(36, .rel R_list), (32, .det S_raw11), (47, .det S_outlet), (48, .det S_product), (27, .det S_next), (49, .det S_candR), (50, .det S_candR), (37, .det S_sameM), (35, .det S_awake11)] [] 0
    (.cons (list_ok hP) (.cons (raw11_ok hP) (.cons (outlet_ok hP) (.cons (tproduct_ok hP) (.cons (next_ok hP) (.cons (candC_ok hP hL) (.cons (candR_ok hP) (.cons (sameM_ok hP) (.cons (awake11_ok hP hL) .nil))))))))) (hP ▸ Tryz.func13) rfl rfl rfl [] (by kernel_rfl) trivial ?_
  rw [nf_lca]
  have tel : ∀ g : Nat → MG, mgOf (mgRow g) = g := fun _ => rfl
  simp only [tel]
  rw [show vInt (intRow v) = v from rfl]
  refine ⟨trivial, trivial, rfl, by omega, fun c gc a hc ha sc => ?_⟩
  have r := nextV_range (show (1 : Int) ≤ 4 by omega) n v (a + 1 + 1)
  have eqs : ∀ {f : Nat → MG} {k : Nat}, (decide True && eqMs f f k) = false → False := fun q => by rw [eqMs_self, decide_eq_true trivial] at q; cases q
  have sa : ∀ i, i < min na 12 → (cutM ga i).Sm := fun i _ => cutM_sm ga i
  have len : ∀ (g : Nat → MG) (k : Nat) (o p : List UInt8) (per : Int), k ≤ 12 → (candL g k o p per).length ≤ 1000000 := fun g k o p per hk => by
    have h1 := canL_len o p per (atM (rightL g k)) (rightL g k).length
    have h2 := rightL_len g k
    unfold candL; omega
  have hm : min na 12 ≤ 12 := Nat.min_le_right _ _
  refine ⟨trivial, ⟨by omega, by omega⟩, ⟨by omega, by omega⟩, ⟨trivial, trivial, rfl, by omega, by omega⟩, ⟨trivial, trivial, rfl, by omega, by omega⟩, ⟨trivial, trivial, rfl, ⟨by omega, by omega⟩, by omega, by omega⟩, by simp only [inR]; omega, ⟨by omega, trivial, sa⟩, ⟨by omega, trivial, sa⟩, ⟨len _ _ _ _ _ hm, trivial, trivial⟩, condP_intro (fun _ => ?_) (fun q => (eqs q).elim)⟩
  exact ⟨⟨by omega, trivial, sc⟩, ⟨by omega, trivial, sc⟩, ⟨len _ _ _ _ _ hc, trivial, trivial⟩, condP_intro (fun _ => ⟨trivial, trivial, trivial⟩) (fun q => (eqs q).elim)⟩
end Go.Eng
namespace Go.Eng
open Go.Proofs Go.RowKit Go.ChangeShapes Go.WideShapes Go.ChangeAt
theorem params_Ca : Tryz.f13.params = #[58, 9, 9, 3, 23] := by kernel_rfl
set_option maxRecDepth 100000 in
theorem lifted_Ca (os : Os) (started : os.Started) (H : Type) (enc : TypeId × Value → H) :
    ReturnsInHanded {} Tryz.checked os 13 .any (fun w args => (Go.Proofs.YtokpcnppihgdlaaGreatDoor.Rows.collectionCandidatesSpec.pre enc Tryz.prog Tryz.f13 [] false w args ∧ laidMetH Tryz.prog Go.Proofs.YtokpcnppihgdlaaGreatDoor.Rows.collectionCandidatesRow.laid w) ∧ sizedMet enc Tryz.prog Tryz.f13 (OpenSpec.ofChange Go.Proofs.YtokpcnppihgdlaaGreatDoor.Rows.collectionCandidatesSpec) false w args)
      (Go.Proofs.YtokpcnppihgdlaaGreatDoor.Rows.collectionCandidatesSpec.post enc Tryz.prog Tryz.f13 false true false false) := by
  refine handed_and_shaped (C := Tryz.checked) (X := fun w _ => laidMetH Tryz.prog Go.Proofs.YtokpcnppihgdlaaGreatDoor.Rows.collectionCandidatesRow.laid w) (fun _ _ _ hh h => h.of_heap hh) ownK started (by kernel_rfl) Tryz.func13
    (ChangeSpec.witness_at (enc := enc) (C := Tryz.checked) (os := os) (X := fun w _ => laidMetH Tryz.prog Go.Proofs.YtokpcnppihgdlaaGreatDoor.Rows.collectionCandidatesRow.laid w) false (laidWorld os) #[.slice none 0 0, .string ⟨#[]⟩, .string ⟨#[]⟩, .int .i64 0, .slice none 0 0] 8 rfl (by kernel_rfl) (by kernel_rfl) (by kernel_rfl) (by kernel_rfl) (by kernel_rfl) (laid_met os _)) ?_
  intro W base args ds gs before hval0 hW hL hsh
  have hval : ∀ (j : Nat) t v, Tryz.f13.params[j]? = some t → args[j]? = some v → Value.okWide Tryz.prog W .any base t v := hval0
  have hW' := hW
  obtain ⟨p, q, hA0, hV, rfl, hfz, hnd⟩ := hW
  have hA : DataW.TrodAll enc Tryz.prog W 0 (fun _ => true) true Tryz.f13.params.toList args.toList ds p := hA0
  rw [params_Ca] at hA hval
  obtain ⟨v0, vs0, d0, ds0, p0, q0, hargs, rfl, rfl, h0, r0⟩ := trodAll_cons hA
  obtain ⟨v1, vs1, d1, ds1, p1, q1, rfl, rfl, rfl, h1, r1⟩ := trodAll_cons r0
  obtain ⟨v2, vs2, d2, ds2, p2, q2, rfl, rfl, rfl, h2, r2⟩ := trodAll_cons r1
  obtain ⟨v3, vs3, d3, ds3, p3, q3, rfl, rfl, rfl, h3, r3⟩ := trodAll_cons r2
  obtain ⟨v4, vs4, d4, ds4, p4, q4, rfl, rfl, rfl, h4, r4⟩ := trodAll_cons r3
  obtain ⟨rfl, rfl, rfl⟩ := trodAll_nil r4
  obtain rfl : args = #[v0, v1, v2, v3, v4] := by cases args; simp_all
  obtain ⟨rfl, rfl⟩ := trodVars_none hV
  obtain ⟨a0, len0, cap0, rfl⟩ := okWide_slice undMs (hval 0 58 v0 rfl rfl)
  obtain ⟨s1, rfl⟩ := okWide_string undS (hval 1 9 v1 rfl rfl)
  obtain ⟨s2, rfl⟩ := okWide_string undS (hval 2 9 v2 rfl rfl)
  obtain ⟨z3, rfl⟩ := okWide_int undI (hval 3 3 v3 rfl rfl)
  obtain ⟨a4, len4, cap4, rfl⟩ := okWide_slice undIs (hval 4 23 v4 rfl rfl)
  have k0 := h0
  have k1 := h1
  have k2 := h2
  have k3 := h3
  have k4 := h4
  have lt0 : ∀ x ∈ p0, x.block < W.heap.size := by obtain ⟨m, hm⟩ := k0; exact DataW.trod_lt m _ _ _ hm
  have lt1 : ∀ x ∈ p1, x.block < W.heap.size := by obtain ⟨m, hm⟩ := k1; exact DataW.trod_lt m _ _ _ hm
  have lt2 : ∀ x ∈ p2, x.block < W.heap.size := by obtain ⟨m, hm⟩ := k2; exact DataW.trod_lt m _ _ _ hm
  have lt3 : ∀ x ∈ p3, x.block < W.heap.size := by obtain ⟨m, hm⟩ := k3; exact DataW.trod_lt m _ _ _ hm
  have lt4 : ∀ x ∈ p4, x.block < W.heap.size := by obtain ⟨m, hm⟩ := k4; exact DataW.trod_lt m _ _ _ hm
  obtain ⟨m0, hm0⟩ := h0
  obtain ⟨m4, hm4⟩ := h4
  obtain ⟨A0, n0, c0, w0, e0, V0⟩ := read_msgs hm0
  have e0 : [Value.slice a0 len0 cap0] = [Value.slice A0 n0 c0] := e0
  simp only [List.cons.injEq, and_true] at e0
  rw [← e0] at V0
  obtain ⟨A4, n4, c4, w4, e4, V4⟩ := read_ints hm4
  have e4 : [Value.slice a4 len4 cap4] = [Value.slice A4 n4 c4] := e4
  simp only [List.cons.injEq, and_true] at e4
  rw [← e4] at V4
  have lw := laidW_of hL hsh
  refine (ADet.top (C := cx) (lca_ok rfl (fun _ h => h) n0 w0 s1.data.toList s2.data.toList z3 n4 w4) lw (gsz_le lw) (cargs := [.slice a0 len0 cap0, .string s1, .string s2, .int .i64 z3, .slice a4 len4 cap4]) rfl (fun j x u hx hu => ?_)).mono fun e W' ⟨he, bel⟩ => ?_
  · match j with
    | 0 => obtain rfl := Option.some.inj hx; obtain rfl := Option.some.inj hu; exact V0
    | 1 => obtain rfl := Option.some.inj hx; obtain rfl := Option.some.inj hu; exact .str rfl
    | 2 => obtain rfl := Option.some.inj hx; obtain rfl := Option.some.inj hu; exact .str rfl
    | 3 => obtain rfl := Option.some.inj hx; obtain rfl := Option.some.inj hu; exact .int
    | 4 => obtain rfl := Option.some.inj hx; obtain rfl := Option.some.inj hu; exact V4
    | j + 5 => simp at hx
  · subst he
    exact ⟨_, rfl, _, _, _, [], _, [], hW', trodAll_mk1 (shut_bool (show Tryz.prog.underlying 4 = some .bool by kernel_rfl) _), (trodAll_cons_mk (Below.trod laidOut (by kernel_rfl) (of_decide_eq_true (by kernel_rfl)) k0 bel lt0) (trodAll_cons_mk (Below.trod laidOut (by kernel_rfl) (of_decide_eq_true (by kernel_rfl)) k1 bel lt1) (trodAll_cons_mk (Below.trod laidOut (by kernel_rfl) (of_decide_eq_true (by kernel_rfl)) k2 bel lt2) (trodAll_cons_mk (Below.trod laidOut (by kernel_rfl) (of_decide_eq_true (by kernel_rfl)) k3 bel lt3) (trodAll_cons_mk (Below.trod laidOut (by kernel_rfl) (of_decide_eq_true (by kernel_rfl)) k4 bel lt4) trodAll_mk0))))), rfl, bel.frame _, fun h => by cases h⟩
set_option maxRecDepth 100000 in
theorem over_Ca : Go.Proofs.YtokpcnppihgdlaaGreatDoor.Rows.collectionCandidatesRow.holds Go.Proofs.YtokpcnppihgdlaaGreatDoor.Tryz.pinned (OpenSpec.ofChange Go.Proofs.YtokpcnppihgdlaaGreatDoor.Rows.collectionCandidatesSpec) :=
  OpenClaim.holds_of_wide 13 Tryz.f13 rfl rfl rfl rfl rfl rfl rfl ⟨rfl, rfl, rfl, rfl, rfl⟩ rfl rfl rfl rfl rfl (by kernel_rfl) Tryz.func13 closed_Ca
    inst_Ca (by unfold Func.isWrapper; rw [if_neg (of_decide_eq_false (by kernel_rfl))]; exact ⟨rfl, rfl⟩)
    (fun os started H enc _ => lifted_Ca os started H enc)
end Go.Eng
namespace Go.Proofs.YtokpcnppihgdlaaGreatDoor
open Go
set_option maxRecDepth 100000 in
theorem wf_Ca : Rows.collectionCandidatesRow.wfByText (OpenSpec.ofChange Rows.collectionCandidatesSpec) = true := by kernel_rfl
set_option maxRecDepth 100000 in
theorem goes_Ca : false = Rows.collectionCandidatesRow.goesBy Tryz.prog := by kernel_rfl
theorem named_Ca : Tryz.prog.funcNamed "priceoffice/priceofficelaw11.CollectionCandidates" = some 13 := by kernel_rfl
theorem stand_Ca0 : Tryz.prog.wantsStandIn 58 = false := by kernel_rfl
theorem stand_Ca1 : Tryz.prog.wantsStandIn 9 = false := by kernel_rfl
theorem stand_Ca2 : Tryz.prog.wantsStandIn 3 = false := by kernel_rfl
theorem stand_Ca3 : Tryz.prog.wantsStandIn 23 = false := by kernel_rfl
theorem card_Ca : Rows.CollectionCandidatesCardSaid :=
  Claim7.holds_tied_plain_at .later [] [.data, .data, .data, .data, .sentinel, .sentinel, .pinned] true harB true
    Go.Eng.over_Ca (fun _ h => by cases h) wf_Ca (fun _ h => by cases h) collectionCandidates_row_tie rfl ⟨rfl, rfl⟩ mainB rfl
    (fun f fn hf hfn => by
      obtain rfl : f = 13 := Option.some.inj (named_Ca.symm.trans hf) |>.symm
      obtain rfl : fn = Tryz.f13 := (Option.some.inj (Tryz.func13.symm.trans hfn)).symm
      exact ⟨looksB, fun j t ht => by
        rw [Go.Eng.params_Ca] at ht
        have h3 : t = 58 ∨ t = 9 ∨ t = 9 ∨ t = 3 ∨ t = 23 := by
          rcases j with _ | _ | _ | _ | _ | j
          · exact .inl (by simpa using ht.symm)
          · exact .inr (.inl (by simpa using ht.symm))
          · exact .inr (.inr (.inl (by simpa using ht.symm)))
          · exact .inr (.inr (.inr (.inl (by simpa using ht.symm))))
          · exact .inr (.inr (.inr (.inr ((by simpa using ht.symm)))))
          · simp at ht
        rcases h3 with rfl | rfl | rfl | rfl | rfl
        · exact stand_Ca0
        · exact stand_Ca1
        · exact stand_Ca1
        · exact stand_Ca2
        · exact stand_Ca3⟩)
    goes_Ca
end Go.Proofs.YtokpcnppihgdlaaGreatDoor
