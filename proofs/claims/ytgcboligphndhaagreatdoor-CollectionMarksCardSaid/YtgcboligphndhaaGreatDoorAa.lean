/- The closed facts of the row of CollectionMarks. -/
import Derived.Test.YtgcboligphndhaaGreatDoorEzb
namespace Go.Eng
open Go.Proofs Go.RowKit Go.ChangeShapes Go.WideShapes Go.ChangeAt
set_option maxRecDepth 100000 in
set_option maxHeartbeats 8000000 in
theorem closed_Mr : joinedFacts Tryz.prog 3 Tryz.f3 Go.Proofs.YtgcboligphndhaaGreatDoor.Rows.collectionMarksSpec Go.Proofs.YtgcboligphndhaaGreatDoor.Rows.collectionMarksRow = true := by
  unfold joinedFacts
  simp only [Bool.and_eq_true]
  exact ⟨⟨⟨⟨⟨⟨⟨⟨⟨⟨⟨⟨⟨⟨⟨⟨⟨⟨⟨⟨⟨⟨⟨⟨⟨⟨⟨⟨⟨⟨⟨(by as_aux_lemma => kernel_rfl), laidOut⟩, mapsB⟩, by as_aux_lemma => kernel_rfl⟩, by as_aux_lemma => kernel_rfl⟩, by as_aux_lemma => kernel_rfl⟩, by as_aux_lemma => kernel_rfl⟩, by as_aux_lemma => kernel_rfl⟩, by as_aux_lemma => kernel_rfl⟩, by as_aux_lemma => kernel_rfl⟩, by as_aux_lemma => kernel_rfl⟩, by as_aux_lemma => kernel_rfl⟩, by as_aux_lemma => kernel_rfl⟩, by as_aux_lemma => kernel_rfl⟩, by as_aux_lemma => kernel_rfl⟩, by as_aux_lemma => kernel_rfl⟩, by as_aux_lemma => kernel_rfl⟩, by as_aux_lemma => kernel_rfl⟩, by as_aux_lemma => kernel_rfl⟩, by as_aux_lemma => kernel_rfl⟩, by as_aux_lemma => kernel_rfl⟩, by as_aux_lemma => kernel_rfl⟩, plainB⟩, by as_aux_lemma => kernel_rfl⟩, heardB⟩, enterB⟩, liftB⟩, by as_aux_lemma => kernel_rfl⟩, by as_aux_lemma => kernel_rfl⟩, by as_aux_lemma => kernel_rfl⟩, by as_aux_lemma => kernel_rfl⟩, by as_aux_lemma => kernel_rfl⟩
set_option maxRecDepth 100000 in
theorem inst_Mr : Tryz.f3.isInstance Tryz.prog Go.Proofs.YtgcboligphndhaaGreatDoor.Rows.collectionMarksRow.origin Go.Proofs.YtgcboligphndhaaGreatDoor.Rows.collectionMarksRow.targs := of_decide_eq_true (by kernel_rfl)
end Go.Eng
