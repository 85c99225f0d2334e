/- The tied card of CollectionMarks: its statement is 'CollectionMarksCardSaid' of the given cards. -/
import Derived.Test.YtgcboligphndhaaGreatDoorEzb
import Derived.Test.YtgcboligphndhaaGreatDoorAa
import Derived.Test.YtgcboligphndhaaGreatDoorEzc
import Derived.Test.YtgcboligphndhaaGreatDoorEza
import Derived.Test.YtgcboligphndhaaGreatDoorEz
namespace Go.Eng
open Go.Proofs Go.RowKit Go.ChangeShapes Go.WideShapes Go.ChangeAt
theorem params_Mr : Tryz.f3.params = #[22, 23] := by kernel_rfl
set_option maxRecDepth 100000 in
theorem lifted_Mr (os : Os) (started : os.Started) (H : Type) (enc : TypeId × Value → H) :
    ReturnsInHanded {} Tryz.checked os 3 .any (fun w args => (Go.Proofs.YtgcboligphndhaaGreatDoor.Rows.collectionMarksSpec.pre enc Tryz.prog Tryz.f3 [] false w args ∧ laidMetH Tryz.prog Go.Proofs.YtgcboligphndhaaGreatDoor.Rows.collectionMarksRow.laid w) ∧ sizedMet enc Tryz.prog Tryz.f3 (OpenSpec.ofChange Go.Proofs.YtgcboligphndhaaGreatDoor.Rows.collectionMarksSpec) false w args)
      (Go.Proofs.YtgcboligphndhaaGreatDoor.Rows.collectionMarksSpec.post enc Tryz.prog Tryz.f3 false true false false) := by
  refine handed_and_shaped (C := Tryz.checked) (X := fun w _ => laidMetH Tryz.prog Go.Proofs.YtgcboligphndhaaGreatDoor.Rows.collectionMarksRow.laid w) (fun _ _ _ hh h => h.of_heap hh) ownK started (by kernel_rfl) Tryz.func3
    (ChangeSpec.witness_at (enc := enc) (C := Tryz.checked) (os := os) (X := fun w _ => laidMetH Tryz.prog Go.Proofs.YtgcboligphndhaaGreatDoor.Rows.collectionMarksRow.laid w) false (laidWorld os) #[.slice none 0 0, .slice none 0 0] 8 rfl (by kernel_rfl) (by kernel_rfl) (by kernel_rfl) (by kernel_rfl) (by kernel_rfl) (laid_met os _)) ?_
  intro W base args ds gs before hval0 hW hL hsh
  have hval : ∀ (j : Nat) t v, Tryz.f3.params[j]? = some t → args[j]? = some v → Value.okWide Tryz.prog W .any base t v := hval0
  have hW' := hW
  obtain ⟨p, q, hA0, hV, rfl, hfz, hnd⟩ := hW
  have hA : DataW.TrodAll enc Tryz.prog W 0 (fun _ => true) true Tryz.f3.params.toList args.toList ds p := hA0
  rw [params_Mr] at hA hval
  obtain ⟨v0, vs0, d0, ds0, p0, q0, hargs, rfl, rfl, h0, r0⟩ := trodAll_cons hA
  obtain ⟨v1, vs1, d1, ds1, p1, q1, rfl, rfl, rfl, h1, r1⟩ := trodAll_cons r0
  obtain ⟨rfl, rfl, rfl⟩ := trodAll_nil r1
  obtain rfl : args = #[v0, v1] := by cases args; simp_all
  obtain ⟨rfl, rfl⟩ := trodVars_none hV
  obtain ⟨a0, len0, cap0, rfl⟩ := okWide_slice undMs (hval 0 22 v0 rfl rfl)
  obtain ⟨a1, len1, cap1, rfl⟩ := okWide_slice undIs (hval 1 23 v1 rfl rfl)
  have k0 := h0
  have k1 := h1
  have lt0 : ∀ x ∈ p0, x.block < W.heap.size := by obtain ⟨m, hm⟩ := k0; exact DataW.trod_lt m _ _ _ hm
  have lt1 : ∀ x ∈ p1, x.block < W.heap.size := by obtain ⟨m, hm⟩ := k1; exact DataW.trod_lt m _ _ _ hm
  obtain ⟨m0, hm0⟩ := h0
  obtain ⟨m1, hm1⟩ := h1
  obtain ⟨A0, n0, c0, w0, e0, V0⟩ := read_msgs hm0
  have e0 : [Value.slice a0 len0 cap0] = [Value.slice A0 n0 c0] := e0
  simp only [List.cons.injEq, and_true] at e0
  rw [← e0] at V0
  obtain ⟨A1, n1, c1, w1, e1, V1⟩ := read_ints hm1
  have e1 : [Value.slice a1 len1 cap1] = [Value.slice A1 n1 c1] := e1
  simp only [List.cons.injEq, and_true] at e1
  rw [← e1] at V1
  have lw := laidW_of hL hsh
  refine (ADet.top (C := cx) (lmk_ok rfl (fun _ h => h) n0 w0 n1 w1) lw (gsz_le lw) (cargs := [.slice a0 len0 cap0, .slice a1 len1 cap1]) rfl (fun j x u hx hu => ?_)).mono fun e W' ⟨he, bel⟩ => ?_
  · match j with
    | 0 => obtain rfl := Option.some.inj hx; obtain rfl := Option.some.inj hu; exact V0
    | 1 => obtain rfl := Option.some.inj hx; obtain rfl := Option.some.inj hu; exact V1
    | j + 2 => simp at hx
  · subst he
    exact ⟨_, rfl, _, _, _, [], _, [], hW', trodAll_mk1 (shut_bool (show Tryz.prog.underlying 4 = some .bool by kernel_rfl) _), (trodAll_cons_mk (Below.trod laidOut (by kernel_rfl) (of_decide_eq_true (by kernel_rfl)) k0 bel lt0) (trodAll_cons_mk (Below.trod laidOut (by kernel_rfl) (of_decide_eq_true (by kernel_rfl)) k1 bel lt1) trodAll_mk0)), rfl, bel.frame _, fun h => by cases h⟩
set_option maxRecDepth 100000 in
theorem over_Mr : Go.Proofs.YtgcboligphndhaaGreatDoor.Rows.collectionMarksRow.holds Go.Proofs.YtgcboligphndhaaGreatDoor.Tryz.pinned (OpenSpec.ofChange Go.Proofs.YtgcboligphndhaaGreatDoor.Rows.collectionMarksSpec) :=
  OpenClaim.holds_of_wide 3 Tryz.f3 rfl rfl rfl rfl rfl rfl rfl ⟨rfl, rfl, rfl, rfl, rfl⟩ rfl rfl rfl rfl rfl (by kernel_rfl) Tryz.func3 closed_Mr
    inst_Mr (by unfold Func.isWrapper; rw [if_neg (of_decide_eq_false (by kernel_rfl))]; exact ⟨rfl, rfl⟩)
    (fun os started H enc _ => lifted_Mr os started H enc)
end Go.Eng
namespace Go.Proofs.YtgcboligphndhaaGreatDoor
open Go
set_option maxRecDepth 100000 in
theorem wf_Mr : Rows.collectionMarksRow.wfByText (OpenSpec.ofChange Rows.collectionMarksSpec) = true := by kernel_rfl
set_option maxRecDepth 100000 in
theorem goes_Mr : false = Rows.collectionMarksRow.goesBy Tryz.prog := by kernel_rfl
theorem named_Mr : Tryz.prog.funcNamed "priceoffice/priceofficelaw11.CollectionMarks" = some 3 := by kernel_rfl
theorem stand_Mr0 : Tryz.prog.wantsStandIn 22 = false := by kernel_rfl
theorem stand_Mr1 : Tryz.prog.wantsStandIn 23 = false := by kernel_rfl
theorem card_Mr : Rows.CollectionMarksCardSaid :=
  Claim7.holds_tied_plain_at .later [] [.data, .data, .data, .data, .sentinel, .sentinel, .pinned] true harB true
    Go.Eng.over_Mr (fun _ h => by cases h) wf_Mr (fun _ h => by cases h) collectionMarks_row_tie rfl ⟨rfl, rfl⟩ mainB rfl
    (fun f fn hf hfn => by
      obtain rfl : f = 3 := Option.some.inj (named_Mr.symm.trans hf) |>.symm
      obtain rfl : fn = Tryz.f3 := (Option.some.inj (Tryz.func3.symm.trans hfn)).symm
      exact ⟨looksB, fun j t ht => by
        rw [Go.Eng.params_Mr] at ht
        have h3 : t = 22 ∨ t = 23 := by
          rcases j with _ | _ | j
          · exact .inl (by simpa using ht.symm)
          · exact .inr ((by simpa using ht.symm))
          · simp at ht
        rcases h3 with rfl | rfl
        · exact stand_Mr0
        · exact stand_Mr1⟩)
    goes_Mr
end Go.Proofs.YtgcboligphndhaaGreatDoor
