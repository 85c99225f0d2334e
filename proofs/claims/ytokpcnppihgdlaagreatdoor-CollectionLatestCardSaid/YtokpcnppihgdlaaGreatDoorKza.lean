/- The tied card of CollectionLatest: its statement is 'CollectionLatestCardSaid' of the given cards. -/
import Derived.Test.YtokpcnppihgdlaaGreatDoorKo
import Derived.Test.YtokpcnppihgdlaaGreatDoorKz
import Derived.Test.YtokpcnppihgdlaaGreatDoorCards
import Derived.Test.YtokpcnppihgdlaaGreatDoorTie
import Derived.SevenTiedAt
/- The row of CollectionLatest. -/
namespace Go.Eng
open Go.Proofs Go.RowKit Go.ChangeShapes Go.WideShapes Go.ChangeAt

theorem params_La : Tryz.f12.params = #[3, 23] := by kernel_rfl

set_option maxRecDepth 100000 in
theorem lifted_La (os : Os) (started : os.Started) (H : Type) (enc : TypeId × Value → H) :
    ReturnsInHanded {} Tryz.checked os 12 .any (fun w args => (Go.Proofs.YtokpcnppihgdlaaGreatDoor.Rows.collectionLatestSpec.pre enc Tryz.prog Tryz.f12 [] false w args ∧ laidMetH Tryz.prog Go.Proofs.YtokpcnppihgdlaaGreatDoor.Rows.collectionLatestRow.laid w) ∧ sizedMet enc Tryz.prog Tryz.f12 (OpenSpec.ofChange Go.Proofs.YtokpcnppihgdlaaGreatDoor.Rows.collectionLatestSpec) false w args)
      (Go.Proofs.YtokpcnppihgdlaaGreatDoor.Rows.collectionLatestSpec.post enc Tryz.prog Tryz.f12 false true false false) := by
  refine handed_and_shaped (C := Tryz.checked) (X := fun w _ => laidMetH Tryz.prog Go.Proofs.YtokpcnppihgdlaaGreatDoor.Rows.collectionLatestRow.laid w) (fun _ _ _ hh h => h.of_heap hh) ownK started (by kernel_rfl) Tryz.func12
    (ChangeSpec.witness_at (enc := enc) (C := Tryz.checked) (os := os) (X := fun w _ => laidMetH Tryz.prog Go.Proofs.YtokpcnppihgdlaaGreatDoor.Rows.collectionLatestRow.laid w) false (laidWorld os) #[.int .i64 0, .slice none 0 0] 8 rfl (by kernel_rfl) (by kernel_rfl) (by kernel_rfl) (by kernel_rfl) (by kernel_rfl) (laid_met os _)) ?_
  intro W base args ds gs before hval0 hW hL hsh
  have hval : ∀ (j : Nat) t v, Tryz.f12.params[j]? = some t → args[j]? = some v → Value.okWide Tryz.prog W .any base t v := hval0
  have hW' := hW
  obtain ⟨p, q, hA0, hV, rfl, hfz, hnd⟩ := hW
  have hA : DataW.TrodAll enc Tryz.prog W 0 (fun _ => true) true Tryz.f12.params.toList args.toList ds p := hA0
  rw [params_La] at hA hval
  obtain ⟨v0, vs0, d0, ds0, p0, q0, hargs, rfl, rfl, h0, r0⟩ := trodAll_cons hA
  obtain ⟨v1, vs1, d1, ds1, p1, q1, rfl, rfl, rfl, h1, r1⟩ := trodAll_cons r0
  obtain ⟨rfl, rfl, rfl⟩ := trodAll_nil r1
  obtain rfl : args = #[v0, v1] := by cases args; simp_all
  obtain ⟨rfl, rfl⟩ := trodVars_none hV
  obtain ⟨z0, rfl⟩ := okWide_int undI (hval 0 3 v0 rfl rfl)
  obtain ⟨a1, len1, cap1, rfl⟩ := okWide_slice undIs (hval 1 23 v1 rfl rfl)
  have k0 := h0
  have k1 := h1
  have lt0 : ∀ x ∈ p0, x.block < W.heap.size := by obtain ⟨m, hm⟩ := k0; exact DataW.trod_lt m _ _ _ hm
  have lt1 : ∀ x ∈ p1, x.block < W.heap.size := by obtain ⟨m, hm⟩ := k1; exact DataW.trod_lt m _ _ _ hm
  obtain ⟨m1, hm1⟩ := h1
  obtain ⟨A1, n1, c1, w1, e1, V1⟩ := read_ints hm1
  have e1 : [Value.slice a1 len1 cap1] = [Value.slice A1 n1 c1] := e1
  simp only [List.cons.injEq, and_true] at e1
  rw [← e1] at V1
  have lw := laidW_of hL hsh
  refine (ADet.top (C := cx) (llt_ok rfl (fun _ h => h) z0 n1 w1) lw (gsz_le lw) (cargs := [.int .i64 z0, .slice a1 len1 cap1]) rfl (fun j x u hx hu => ?_)).mono fun e W' ⟨he, bel⟩ => ?_
  · match j with
    | 0 => obtain rfl := Option.some.inj hx; obtain rfl := Option.some.inj hu; exact .int
    | 1 => obtain rfl := Option.some.inj hx; obtain rfl := Option.some.inj hu; exact V1
    | j + 2 => simp at hx
  · subst he
    exact ⟨_, rfl, _, _, _, [], _, [], hW', trodAll_mk1 (shut_bool (show Tryz.prog.underlying 4 = some .bool by kernel_rfl) _), (trodAll_cons_mk (Below.trod laidOut (by kernel_rfl) (of_decide_eq_true (by kernel_rfl)) k0 bel lt0) (trodAll_cons_mk (Below.trod laidOut (by kernel_rfl) (of_decide_eq_true (by kernel_rfl)) k1 bel lt1) trodAll_mk0)), rfl, bel.frame _, fun h => by cases h⟩

set_option maxRecDepth 100000 in
set_option maxHeartbeats 8000000 in
theorem closed_La : joinedFacts Tryz.prog 12 Tryz.f12 Go.Proofs.YtokpcnppihgdlaaGreatDoor.Rows.collectionLatestSpec Go.Proofs.YtokpcnppihgdlaaGreatDoor.Rows.collectionLatestRow = true := by
  unfold joinedFacts
  simp only [Bool.and_eq_true]
  exact ⟨⟨⟨⟨⟨⟨⟨⟨⟨⟨⟨⟨⟨⟨⟨⟨⟨⟨⟨⟨⟨⟨⟨⟨⟨⟨⟨⟨⟨⟨⟨(by as_aux_lemma => kernel_rfl), laidOut⟩, mapsB⟩, by as_aux_lemma => kernel_rfl⟩, by as_aux_lemma => kernel_rfl⟩, by as_aux_lemma => kernel_rfl⟩, by as_aux_lemma => kernel_rfl⟩, by as_aux_lemma => kernel_rfl⟩, by as_aux_lemma => kernel_rfl⟩, by as_aux_lemma => kernel_rfl⟩, by as_aux_lemma => kernel_rfl⟩, by as_aux_lemma => kernel_rfl⟩, by as_aux_lemma => kernel_rfl⟩, by as_aux_lemma => kernel_rfl⟩, by as_aux_lemma => kernel_rfl⟩, by as_aux_lemma => kernel_rfl⟩, by as_aux_lemma => kernel_rfl⟩, by as_aux_lemma => kernel_rfl⟩, by as_aux_lemma => kernel_rfl⟩, by as_aux_lemma => kernel_rfl⟩, by as_aux_lemma => kernel_rfl⟩, by as_aux_lemma => kernel_rfl⟩, plainB⟩, by as_aux_lemma => kernel_rfl⟩, heardB⟩, enterB⟩, liftB⟩, by as_aux_lemma => kernel_rfl⟩, by as_aux_lemma => kernel_rfl⟩, by as_aux_lemma => kernel_rfl⟩, by as_aux_lemma => kernel_rfl⟩, by as_aux_lemma => kernel_rfl⟩
set_option maxRecDepth 100000 in
theorem inst_La : Tryz.f12.isInstance Tryz.prog Go.Proofs.YtokpcnppihgdlaaGreatDoor.Rows.collectionLatestRow.origin Go.Proofs.YtokpcnppihgdlaaGreatDoor.Rows.collectionLatestRow.targs := of_decide_eq_true (by kernel_rfl)
set_option maxRecDepth 100000 in
theorem over_La : Go.Proofs.YtokpcnppihgdlaaGreatDoor.Rows.collectionLatestRow.holds Go.Proofs.YtokpcnppihgdlaaGreatDoor.Tryz.pinned (OpenSpec.ofChange Go.Proofs.YtokpcnppihgdlaaGreatDoor.Rows.collectionLatestSpec) :=
  OpenClaim.holds_of_wide 12 Tryz.f12 rfl rfl rfl rfl rfl rfl rfl ⟨rfl, rfl, rfl, rfl, rfl⟩ rfl rfl rfl rfl rfl (by kernel_rfl) Tryz.func12 closed_La
    inst_La (by unfold Func.isWrapper; rw [if_neg (of_decide_eq_false (by kernel_rfl))]; exact ⟨rfl, rfl⟩)
    (fun os started H enc _ => lifted_La os started H enc)
end Go.Eng
/- What all cards of the program share. -/
namespace Go.Proofs.YtokpcnppihgdlaaGreatDoor
open Go
def harB : Bool × String := (true, "9fc102e4074b6cbfcb17ff81fe27951d79d0a08a23044dbb02ad96fa3f9cf2ef")
set_option maxRecDepth 100000 in
theorem mainB : Tryz.prog.mainIs = some (harB.1, harB.2.toList) := by kernel_rfl
set_option maxRecDepth 100000 in
theorem looksB : true = Tryz.prog.looks [] := by kernel_rfl
end Go.Proofs.YtokpcnppihgdlaaGreatDoor
/- The tied card of CollectionLatest: its statement is 'CollectionLatestCardSaid' of the given cards. -/
namespace Go.Proofs.YtokpcnppihgdlaaGreatDoor
open Go

set_option maxRecDepth 100000 in
theorem wf_La : Rows.collectionLatestRow.wfByText (OpenSpec.ofChange Rows.collectionLatestSpec) = true := by kernel_rfl
set_option maxRecDepth 100000 in
theorem goes_La : false = Rows.collectionLatestRow.goesBy Tryz.prog := by kernel_rfl
theorem named_La : Tryz.prog.funcNamed "priceoffice/priceofficelaw11.CollectionLatest" = some 12 := by kernel_rfl
theorem stand_La0 : Tryz.prog.wantsStandIn 3 = false := by kernel_rfl
theorem stand_La1 : Tryz.prog.wantsStandIn 23 = false := by kernel_rfl

theorem card_La : Rows.CollectionLatestCardSaid :=
  Claim7.holds_tied_plain_at .later [] [.data, .data, .data, .data, .sentinel, .sentinel, .pinned] true harB true
    Go.Eng.over_La (fun _ h => by cases h) wf_La (fun _ h => by cases h) collectionLatest_row_tie rfl ⟨rfl, rfl⟩ mainB rfl
    (fun f fn hf hfn => by
      obtain rfl : f = 12 := Option.some.inj (named_La.symm.trans hf) |>.symm
      obtain rfl : fn = Tryz.f12 := (Option.some.inj (Tryz.func12.symm.trans hfn)).symm
      exact ⟨looksB, fun j t ht => by
        rw [Go.Eng.params_La] at ht
        have h3 : t = 3 ∨ t = 23 := by
          rcases j with _ | _ | j
          · exact .inl (by simpa using ht.symm)
          · exact .inr ((by simpa using ht.symm))
          · simp at ht
        rcases h3 with rfl | rfl
        · exact stand_La0
        · exact stand_La1⟩)
    goes_La
end Go.Proofs.YtokpcnppihgdlaaGreatDoor
