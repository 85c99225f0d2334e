/- The closed facts of the row of CollectionResolves. -/
import Derived.Test.YtokpcnppihgdlaaGreatDoorEza
namespace Go.Eng
open Go.Proofs Go.RowKit Go.ChangeShapes Go.WideShapes Go.ChangeAt
set_option maxRecDepth 100000 in
set_option maxHeartbeats 8000000 in
theorem closed_Cr : joinedFacts Tryz.prog 10 Tryz.f10 Go.Proofs.YtokpcnppihgdlaaGreatDoor.Rows.collectionResolvesSpec Go.Proofs.YtokpcnppihgdlaaGreatDoor.Rows.collectionResolvesRow = true := by
  unfold joinedFacts
  simp only [Bool.and_eq_true]
  exact ⟨⟨⟨⟨⟨⟨⟨⟨⟨⟨⟨⟨⟨⟨⟨⟨⟨⟨⟨⟨⟨⟨⟨⟨⟨⟨⟨⟨⟨⟨⟨(by as_aux_lemma => kernel_rfl), laidOut⟩, mapsB⟩, by as_aux_lemma => kernel_rfl⟩, by as_aux_lemma => kernel_rfl⟩, by as_aux_lemma => kernel_rfl⟩, by as_aux_lemma => kernel_rfl⟩, by as_aux_lemma => kernel_rfl⟩, by as_aux_lemma => kernel_rfl⟩, by as_aux_lemma => kernel_rfl⟩, by as_aux_lemma => kernel_rfl⟩, by as_aux_lemma => kernel_rfl⟩, by as_aux_lemma => kernel_rfl⟩, by as_aux_lemma => kernel_rfl⟩, by as_aux_lemma => kernel_rfl⟩, by as_aux_lemma => kernel_rfl⟩, by as_aux_lemma => kernel_rfl⟩, by as_aux_lemma => kernel_rfl⟩, by as_aux_lemma => kernel_rfl⟩, by as_aux_lemma => kernel_rfl⟩, by as_aux_lemma => kernel_rfl⟩, by as_aux_lemma => kernel_rfl⟩, plainB⟩, by as_aux_lemma => kernel_rfl⟩, heardB⟩, enterB⟩, liftB⟩, by as_aux_lemma => kernel_rfl⟩, by as_aux_lemma => kernel_rfl⟩, by as_aux_lemma => kernel_rfl⟩, by as_aux_lemma => kernel_rfl⟩, by as_aux_lemma => kernel_rfl⟩
set_option maxRecDepth 100000 in
theorem inst_Cr : Tryz.f10.isInstance Tryz.prog Go.Proofs.YtokpcnppihgdlaaGreatDoor.Rows.collectionResolvesRow.origin Go.Proofs.YtokpcnppihgdlaaGreatDoor.Rows.collectionResolvesRow.targs := of_decide_eq_true (by kernel_rfl)
end Go.Eng
