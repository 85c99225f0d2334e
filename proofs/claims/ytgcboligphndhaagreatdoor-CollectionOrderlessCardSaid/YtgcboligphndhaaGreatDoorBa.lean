/- The closed facts of the row of CollectionOrderless. -/
import Derived.Test.YtgcboligphndhaaGreatDoorEzb
namespace Go.Eng
open Go.Proofs Go.RowKit Go.ChangeShapes Go.WideShapes Go.ChangeAt
set_option maxRecDepth 100000 in
set_option maxHeartbeats 8000000 in
theorem closed_Od : joinedFacts Tryz.prog 4 Tryz.f4 Go.Proofs.YtgcboligphndhaaGreatDoor.Rows.collectionOrderlessSpec Go.Proofs.YtgcboligphndhaaGreatDoor.Rows.collectionOrderlessRow = true := by
  unfold joinedFacts
  simp only [Bool.and_eq_true]
  exact ⟨⟨⟨⟨⟨⟨⟨⟨⟨⟨⟨⟨⟨⟨⟨⟨⟨⟨⟨⟨⟨⟨⟨⟨⟨⟨⟨⟨⟨⟨⟨(by as_aux_lemma => kernel_rfl), laidOut⟩, mapsB⟩, by as_aux_lemma => kernel_rfl⟩, by as_aux_lemma => kernel_rfl⟩, by as_aux_lemma => kernel_rfl⟩, by as_aux_lemma => kernel_rfl⟩, by as_aux_lemma => kernel_rfl⟩, by as_aux_lemma => kernel_rfl⟩, by as_aux_lemma => kernel_rfl⟩, by as_aux_lemma => kernel_rfl⟩, by as_aux_lemma => kernel_rfl⟩, by as_aux_lemma => kernel_rfl⟩, by as_aux_lemma => kernel_rfl⟩, by as_aux_lemma => kernel_rfl⟩, by as_aux_lemma => kernel_rfl⟩, by as_aux_lemma => kernel_rfl⟩, by as_aux_lemma => kernel_rfl⟩, by as_aux_lemma => kernel_rfl⟩, by as_aux_lemma => kernel_rfl⟩, by as_aux_lemma => kernel_rfl⟩, by as_aux_lemma => kernel_rfl⟩, plainB⟩, by as_aux_lemma => kernel_rfl⟩, heardB⟩, enterB⟩, liftB⟩, by as_aux_lemma => kernel_rfl⟩, by as_aux_lemma => kernel_rfl⟩, by as_aux_lemma => kernel_rfl⟩, by as_aux_lemma => kernel_rfl⟩, by as_aux_lemma => kernel_rfl⟩
set_option maxRecDepth 100000 in
theorem inst_Od : Tryz.f4.isInstance Tryz.prog Go.Proofs.YtgcboligphndhaaGreatDoor.Rows.collectionOrderlessRow.origin Go.Proofs.YtgcboligphndhaaGreatDoor.Rows.collectionOrderlessRow.targs := of_decide_eq_true (by kernel_rfl)
end Go.Eng
