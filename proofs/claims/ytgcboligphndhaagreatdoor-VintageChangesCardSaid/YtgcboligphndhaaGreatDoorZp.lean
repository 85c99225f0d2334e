/- The closed facts of the row of VintageChanges. -/
import Derived.Test.YtgcboligphndhaaGreatDoorZo
namespace Go.Eng
open Go.Proofs Go.RowKit Go.ChangeShapes Go.WideShapes Go.ChangeAt
set_option maxRecDepth 100000 in
set_option maxHeartbeats 8000000 in
theorem w56:joinedFacts Tryz.prog 12 Tryz.f12 Go.Proofs.YtgcboligphndhaaGreatDoor.Rows.vintageChangesSpec Go.Proofs.YtgcboligphndhaaGreatDoor.Rows.vintageChangesRow=true:=by
 unfold joinedFacts;simp only[Bool.and_eq_true];exact⟨⟨⟨⟨⟨⟨⟨⟨⟨⟨⟨⟨⟨⟨⟨⟨⟨⟨⟨⟨⟨⟨⟨⟨⟨⟨⟨⟨⟨⟨⟨(by as_aux_lemma=>kernel_rfl),wiv⟩,mapsB⟩,by as_aux_lemma=>kernel_rfl⟩,by as_aux_lemma=>kernel_rfl⟩,by as_aux_lemma=>kernel_rfl⟩,by as_aux_lemma=>kernel_rfl⟩,by as_aux_lemma=>kernel_rfl⟩,by as_aux_lemma=>kernel_rfl⟩,by as_aux_lemma=>kernel_rfl⟩,by as_aux_lemma=>kernel_rfl⟩,by as_aux_lemma=>kernel_rfl⟩,by as_aux_lemma=>kernel_rfl⟩,by as_aux_lemma=>kernel_rfl⟩,by as_aux_lemma=>kernel_rfl⟩,by as_aux_lemma=>kernel_rfl⟩,by as_aux_lemma=>kernel_rfl⟩,by as_aux_lemma=>kernel_rfl⟩,by as_aux_lemma=>kernel_rfl⟩,by as_aux_lemma=>kernel_rfl⟩,by as_aux_lemma=>kernel_rfl⟩,by as_aux_lemma=>kernel_rfl⟩,plainB⟩,by as_aux_lemma=>kernel_rfl⟩,heardB⟩,enterB⟩,liftB⟩,by as_aux_lemma=>kernel_rfl⟩,by as_aux_lemma=>kernel_rfl⟩,by as_aux_lemma=>kernel_rfl⟩,by as_aux_lemma=>kernel_rfl⟩,by as_aux_lemma=>kernel_rfl⟩
set_option maxRecDepth 100000 in
theorem inst_Cz:Tryz.f12.isInstance Tryz.prog Go.Proofs.YtgcboligphndhaaGreatDoor.Rows.vintageChangesRow.origin Go.Proofs.YtgcboligphndhaaGreatDoor.Rows.vintageChangesRow.targs:=of_decide_eq_true (by kernel_rfl)
end Go.Eng
