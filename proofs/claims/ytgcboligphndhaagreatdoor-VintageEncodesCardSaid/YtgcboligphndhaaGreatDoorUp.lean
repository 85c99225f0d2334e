/- The closed facts of the row of VintageEncodes. -/
import Derived.Test.YtgcboligphndhaaGreatDoorUo
namespace Go.Eng
open Go.Proofs Go.RowKit Go.ChangeShapes Go.WideShapes Go.ChangeAt
set_option maxRecDepth 100000 in
set_option maxHeartbeats 8000000 in
theorem w2m:joinedFacts Tryz.prog 6 Tryz.f6 Go.Proofs.YtgcboligphndhaaGreatDoor.Rows.vintageEncodesSpec Go.Proofs.YtgcboligphndhaaGreatDoor.Rows.vintageEncodesRow=true:=by
 unfold joinedFacts
 simp only [Bool.and_eq_true]
 exact ⟨⟨⟨⟨⟨⟨⟨⟨⟨⟨⟨⟨⟨⟨⟨⟨⟨⟨⟨⟨⟨⟨⟨⟨⟨⟨⟨⟨⟨⟨⟨(by as_aux_lemma=>kernel_rfl),wpr⟩,mapsB⟩,by as_aux_lemma=>kernel_rfl⟩,by as_aux_lemma=>kernel_rfl⟩,by as_aux_lemma=>kernel_rfl⟩,by as_aux_lemma=>kernel_rfl⟩,by as_aux_lemma=>kernel_rfl⟩,by as_aux_lemma=>kernel_rfl⟩,by as_aux_lemma=>kernel_rfl⟩,by as_aux_lemma=>kernel_rfl⟩,by as_aux_lemma=>kernel_rfl⟩,by as_aux_lemma=>kernel_rfl⟩,by as_aux_lemma=>kernel_rfl⟩,by as_aux_lemma=>kernel_rfl⟩,by as_aux_lemma=>kernel_rfl⟩,by as_aux_lemma=>kernel_rfl⟩,by as_aux_lemma=>kernel_rfl⟩,by as_aux_lemma=>kernel_rfl⟩,by as_aux_lemma=>kernel_rfl⟩,by as_aux_lemma=>kernel_rfl⟩,by as_aux_lemma=>kernel_rfl⟩,plainB⟩,by as_aux_lemma=>kernel_rfl⟩,heardB⟩,enterB⟩,liftB⟩,by as_aux_lemma=>kernel_rfl⟩,by as_aux_lemma=>kernel_rfl⟩,by as_aux_lemma=>kernel_rfl⟩,by as_aux_lemma=>kernel_rfl⟩,by as_aux_lemma=>kernel_rfl⟩
set_option maxRecDepth 100000 in
theorem inst_En:Tryz.f6.isInstance Tryz.prog Go.Proofs.YtgcboligphndhaaGreatDoor.Rows.vintageEncodesRow.origin Go.Proofs.YtgcboligphndhaaGreatDoor.Rows.vintageEncodesRow.targs:=of_decide_eq_true (by kernel_rfl)
end Go.Eng
