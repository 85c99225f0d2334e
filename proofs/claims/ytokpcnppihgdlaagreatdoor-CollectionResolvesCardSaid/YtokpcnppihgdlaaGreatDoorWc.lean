/- The tied card of CollectionResolves: its statement is 'CollectionResolvesCardSaid' of the given cards. -/
import Derived.Test.YtokpcnppihgdlaaGreatDoorEza
import Derived.Test.YtokpcnppihgdlaaGreatDoorWa
import Derived.Test.YtokpcnppihgdlaaGreatDoorEzb
import Derived.Test.YtokpcnppihgdlaaGreatDoorEz
import Derived.Test.YtokpcnppihgdlaaGreatDoorWb
namespace Go.Eng
open Go.Proofs Go.RowKit Go.ChangeShapes Go.WideShapes Go.ChangeAt
theorem params_Cr : Tryz.f10.params = #[58, 9, 9, 3, 23] := by kernel_rfl
set_option maxRecDepth 100000 in
theorem lifted_Cr (os : Os) (started : os.Started) (H : Type) (enc : TypeId × Value → H) :
    ReturnsInHanded {} Tryz.checked os 10 .any (fun w args => (Go.Proofs.YtokpcnppihgdlaaGreatDoor.Rows.collectionResolvesSpec.pre enc Tryz.prog Tryz.f10 [] false w args ∧ laidMetH Tryz.prog Go.Proofs.YtokpcnppihgdlaaGreatDoor.Rows.collectionResolvesRow.laid w) ∧ sizedMet enc Tryz.prog Tryz.f10 (OpenSpec.ofChange Go.Proofs.YtokpcnppihgdlaaGreatDoor.Rows.collectionResolvesSpec) false w args)
      (Go.Proofs.YtokpcnppihgdlaaGreatDoor.Rows.collectionResolvesSpec.post enc Tryz.prog Tryz.f10 false true false false) := by
  refine handed_and_shaped (C := Tryz.checked) (X := fun w _ => laidMetH Tryz.prog Go.Proofs.YtokpcnppihgdlaaGreatDoor.Rows.collectionResolvesRow.laid w) (fun _ _ _ hh h => h.of_heap hh) ownK started (by kernel_rfl) Tryz.func10
    (ChangeSpec.witness_at (enc := enc) (C := Tryz.checked) (os := os) (X := fun w _ => laidMetH Tryz.prog Go.Proofs.YtokpcnppihgdlaaGreatDoor.Rows.collectionResolvesRow.laid w) false (laidWorld os) #[.slice none 0 0, .string ⟨#[]⟩, .string ⟨#[]⟩, .int .i64 0, .slice none 0 0] 8 rfl (by kernel_rfl) (by kernel_rfl) (by kernel_rfl) (by kernel_rfl) (by kernel_rfl) (laid_met os _)) ?_
  intro W base args ds gs before hval0 hW hL hsh
  have hval : ∀ (j : Nat) t v, Tryz.f10.params[j]? = some t → args[j]? = some v → Value.okWide Tryz.prog W .any base t v := hval0
  have hW' := hW
  obtain ⟨p, q, hA0, hV, rfl, hfz, hnd⟩ := hW
  have hA : DataW.TrodAll enc Tryz.prog W 0 (fun _ => true) true Tryz.f10.params.toList args.toList ds p := hA0
  rw [params_Cr] at hA hval
  obtain ⟨v0, vs0, d0, ds0, p0, q0, hargs, rfl, rfl, h0, r0⟩ := trodAll_cons hA
  obtain ⟨v1, vs1, d1, ds1, p1, q1, rfl, rfl, rfl, h1, r1⟩ := trodAll_cons r0
  obtain ⟨v2, vs2, d2, ds2, p2, q2, rfl, rfl, rfl, h2, r2⟩ := trodAll_cons r1
  obtain ⟨v3, vs3, d3, ds3, p3, q3, rfl, rfl, rfl, h3, r3⟩ := trodAll_cons r2
  obtain ⟨v4, vs4, d4, ds4, p4, q4, rfl, rfl, rfl, h4, r4⟩ := trodAll_cons r3
  obtain ⟨rfl, rfl, rfl⟩ := trodAll_nil r4
  obtain rfl : args = #[v0, v1, v2, v3, v4] := by cases args; simp_all
  obtain ⟨rfl, rfl⟩ := trodVars_none hV
  obtain ⟨a0, len0, cap0, rfl⟩ := okWide_slice undMs (hval 0 58 v0 rfl rfl)
  obtain ⟨s1, rfl⟩ := okWide_string undS (hval 1 9 v1 rfl rfl)
  obtain ⟨s2, rfl⟩ := okWide_string undS (hval 2 9 v2 rfl rfl)
  obtain ⟨z3, rfl⟩ := okWide_int undI (hval 3 3 v3 rfl rfl)
  obtain ⟨a4, len4, cap4, rfl⟩ := okWide_slice undIs (hval 4 23 v4 rfl rfl)
  have k0 := h0
  have k1 := h1
  have k2 := h2
  have k3 := h3
  have k4 := h4
  have lt0 : ∀ x ∈ p0, x.block < W.heap.size := by obtain ⟨m, hm⟩ := k0; exact DataW.trod_lt m _ _ _ hm
  have lt1 : ∀ x ∈ p1, x.block < W.heap.size := by obtain ⟨m, hm⟩ := k1; exact DataW.trod_lt m _ _ _ hm
  have lt2 : ∀ x ∈ p2, x.block < W.heap.size := by obtain ⟨m, hm⟩ := k2; exact DataW.trod_lt m _ _ _ hm
  have lt3 : ∀ x ∈ p3, x.block < W.heap.size := by obtain ⟨m, hm⟩ := k3; exact DataW.trod_lt m _ _ _ hm
  have lt4 : ∀ x ∈ p4, x.block < W.heap.size := by obtain ⟨m, hm⟩ := k4; exact DataW.trod_lt m _ _ _ hm
  obtain ⟨m0, hm0⟩ := h0
  obtain ⟨m4, hm4⟩ := h4
  obtain ⟨A0, n0, c0, w0, e0, V0⟩ := read_msgs hm0
  have e0 : [Value.slice a0 len0 cap0] = [Value.slice A0 n0 c0] := e0
  simp only [List.cons.injEq, and_true] at e0
  rw [← e0] at V0
  obtain ⟨A4, n4, c4, w4, e4, V4⟩ := read_ints hm4
  have e4 : [Value.slice a4 len4 cap4] = [Value.slice A4 n4 c4] := e4
  simp only [List.cons.injEq, and_true] at e4
  rw [← e4] at V4
  have lw := laidW_of hL hsh
  refine (ADet.top (C := cx) (lrs_ok rfl (fun _ h => h) n0 w0 s1.data.toList s2.data.toList z3 n4 w4) lw (gsz_le lw) (cargs := [.slice a0 len0 cap0, .string s1, .string s2, .int .i64 z3, .slice a4 len4 cap4]) rfl (fun j x u hx hu => ?_)).mono fun e W' ⟨he, bel⟩ => ?_
  · match j with
    | 0 => obtain rfl := Option.some.inj hx; obtain rfl := Option.some.inj hu; exact V0
    | 1 => obtain rfl := Option.some.inj hx; obtain rfl := Option.some.inj hu; exact .str rfl
    | 2 => obtain rfl := Option.some.inj hx; obtain rfl := Option.some.inj hu; exact .str rfl
    | 3 => obtain rfl := Option.some.inj hx; obtain rfl := Option.some.inj hu; exact .int
    | 4 => obtain rfl := Option.some.inj hx; obtain rfl := Option.some.inj hu; exact V4
    | j + 5 => simp at hx
  · subst he
    exact ⟨_, rfl, _, _, _, [], _, [], hW', trodAll_mk1 (shut_bool (show Tryz.prog.underlying 4 = some .bool by kernel_rfl) _), (trodAll_cons_mk (Below.trod laidOut (by kernel_rfl) (of_decide_eq_true (by kernel_rfl)) k0 bel lt0) (trodAll_cons_mk (Below.trod laidOut (by kernel_rfl) (of_decide_eq_true (by kernel_rfl)) k1 bel lt1) (trodAll_cons_mk (Below.trod laidOut (by kernel_rfl) (of_decide_eq_true (by kernel_rfl)) k2 bel lt2) (trodAll_cons_mk (Below.trod laidOut (by kernel_rfl) (of_decide_eq_true (by kernel_rfl)) k3 bel lt3) (trodAll_cons_mk (Below.trod laidOut (by kernel_rfl) (of_decide_eq_true (by kernel_rfl)) k4 bel lt4) trodAll_mk0))))), rfl, bel.frame _, fun h => by cases h⟩
set_option maxRecDepth 100000 in
theorem over_Cr : Go.Proofs.YtokpcnppihgdlaaGreatDoor.Rows.collectionResolvesRow.holds Go.Proofs.YtokpcnppihgdlaaGreatDoor.Tryz.pinned (OpenSpec.ofChange Go.Proofs.YtokpcnppihgdlaaGreatDoor.Rows.collectionResolvesSpec) :=
  OpenClaim.holds_of_wide 10 Tryz.f10 rfl rfl rfl rfl rfl rfl rfl ⟨rfl, rfl, rfl, rfl, rfl⟩ rfl rfl rfl rfl rfl (by kernel_rfl) Tryz.func10 closed_Cr
    inst_Cr (by unfold Func.isWrapper; rw [if_neg (of_decide_eq_false (by kernel_rfl))]; exact ⟨rfl, rfl⟩)
    (fun os started H enc _ => lifted_Cr os started H enc)
end Go.Eng
namespace Go.Proofs.YtokpcnppihgdlaaGreatDoor
open Go
set_option maxRecDepth 100000 in
theorem wf_Cr : Rows.collectionResolvesRow.wfByText (OpenSpec.ofChange Rows.collectionResolvesSpec) = true := by kernel_rfl
set_option maxRecDepth 100000 in
theorem goes_Cr : false = Rows.collectionResolvesRow.goesBy Tryz.prog := by kernel_rfl
theorem named_Cr : Tryz.prog.funcNamed "priceoffice/priceofficelaw11.CollectionResolves" = some 10 := by kernel_rfl
theorem stand_Cr0 : Tryz.prog.wantsStandIn 58 = false := by kernel_rfl
theorem stand_Cr1 : Tryz.prog.wantsStandIn 9 = false := by kernel_rfl
theorem stand_Cr2 : Tryz.prog.wantsStandIn 3 = false := by kernel_rfl
theorem stand_Cr3 : Tryz.prog.wantsStandIn 23 = false := by kernel_rfl
theorem card_Cr : Rows.CollectionResolvesCardSaid :=
  Claim7.holds_tied_plain_at .later [] [.data, .data, .data, .data, .sentinel, .sentinel, .pinned] true harB true
    Go.Eng.over_Cr (fun _ h => by cases h) wf_Cr (fun _ h => by cases h) collectionResolves_row_tie rfl ⟨rfl, rfl⟩ mainB rfl
    (fun f fn hf hfn => by
      obtain rfl : f = 10 := Option.some.inj (named_Cr.symm.trans hf) |>.symm
      obtain rfl : fn = Tryz.f10 := (Option.some.inj (Tryz.func10.symm.trans hfn)).symm
      exact ⟨looksB, fun j t ht => by
        rw [Go.Eng.params_Cr] at ht
        have h3 : t = 58 ∨ t = 9 ∨ t = 9 ∨ t = 3 ∨ t = 23 := by
          rcases j with _ | _ | _ | _ | _ | j
          · exact .inl (by simpa using ht.symm)
          · exact .inr (.inl (by simpa using ht.symm))
          · exact .inr (.inr (.inl (by simpa using ht.symm)))
          · exact .inr (.inr (.inr (.inl (by simpa using ht.symm))))
          · exact .inr (.inr (.inr (.inr ((by simpa using ht.symm)))))
          · simp at ht
        rcases h3 with rfl | rfl | rfl | rfl | rfl
        · exact stand_Cr0
        · exact stand_Cr1
        · exact stand_Cr1
        · exact stand_Cr2
        · exact stand_Cr3⟩)
    goes_Cr
end Go.Proofs.YtokpcnppihgdlaaGreatDoor
