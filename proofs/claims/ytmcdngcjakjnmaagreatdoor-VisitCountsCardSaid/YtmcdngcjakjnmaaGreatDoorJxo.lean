/- The closed facts of the row of VisitCounts. -/
import Derived.Test.YtmcdngcjakjnmaaGreatDoorJxn
namespace Go.Eng
open Go.Proofs Go.RowKit Go.ChangeShapes Go.WideShapes Go.ChangeAt
set_option maxRecDepth 100000 in
set_option maxHeartbeats 8000000 in
theorem w1y:joinedFacts Tryz.prog 7 Tryz.f7 Go.Proofs.YtmcdngcjakjnmaaGreatDoor.Rows.visitCountsSpec Go.Proofs.YtmcdngcjakjnmaaGreatDoor.Rows.visitCountsRow=true:=by
 unfold joinedFacts;simp only[Bool.and_eq_true];exact⟨⟨⟨⟨⟨⟨⟨⟨⟨⟨⟨⟨⟨⟨⟨⟨⟨⟨⟨⟨⟨⟨⟨⟨⟨⟨⟨⟨⟨⟨⟨(by as_aux_lemma=>kernel_rfl),wsi⟩,mapsB⟩,by as_aux_lemma=>kernel_rfl⟩,by as_aux_lemma=>kernel_rfl⟩,by as_aux_lemma=>kernel_rfl⟩,by as_aux_lemma=>kernel_rfl⟩,by as_aux_lemma=>kernel_rfl⟩,by as_aux_lemma=>kernel_rfl⟩,by as_aux_lemma=>kernel_rfl⟩,by as_aux_lemma=>kernel_rfl⟩,by as_aux_lemma=>kernel_rfl⟩,by as_aux_lemma=>kernel_rfl⟩,by as_aux_lemma=>kernel_rfl⟩,by as_aux_lemma=>kernel_rfl⟩,by as_aux_lemma=>kernel_rfl⟩,by as_aux_lemma=>kernel_rfl⟩,by as_aux_lemma=>kernel_rfl⟩,by as_aux_lemma=>kernel_rfl⟩,by as_aux_lemma=>kernel_rfl⟩,by as_aux_lemma=>kernel_rfl⟩,by as_aux_lemma=>kernel_rfl⟩,plainB⟩,by as_aux_lemma=>kernel_rfl⟩,heardB⟩,enterB⟩,liftB⟩,by as_aux_lemma=>kernel_rfl⟩,by as_aux_lemma=>kernel_rfl⟩,by as_aux_lemma=>kernel_rfl⟩,by as_aux_lemma=>kernel_rfl⟩,by as_aux_lemma=>kernel_rfl⟩
set_option maxRecDepth 100000 in
theorem w0k:Tryz.f7.isInstance Tryz.prog Go.Proofs.YtmcdngcjakjnmaaGreatDoor.Rows.visitCountsRow.origin Go.Proofs.YtmcdngcjakjnmaaGreatDoor.Rows.visitCountsRow.targs:=of_decide_eq_true (by kernel_rfl)
end Go.Eng
