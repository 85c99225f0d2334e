/- The closed facts of the row of VisitReplaces. -/
import Derived.Test.YtmcdngcjakjnmaaGreatDoorJyn
namespace Go.Eng
open Go.Proofs Go.RowKit Go.ChangeShapes Go.WideShapes Go.ChangeAt
set_option maxRecDepth 100000 in
set_option maxHeartbeats 8000000 in
theorem w5i:joinedFacts Tryz.prog 9 Tryz.f9 Go.Proofs.YtmcdngcjakjnmaaGreatDoor.Rows.visitReplacesSpec Go.Proofs.YtmcdngcjakjnmaaGreatDoor.Rows.visitReplacesRow=true:=by
 unfold joinedFacts;simp only[Bool.and_eq_true];exact⟨⟨⟨⟨⟨⟨⟨⟨⟨⟨⟨⟨⟨⟨⟨⟨⟨⟨⟨⟨⟨⟨⟨⟨⟨⟨⟨⟨⟨⟨⟨(by as_aux_lemma=>kernel_rfl),wib⟩,mapsB⟩,by as_aux_lemma=>kernel_rfl⟩,by as_aux_lemma=>kernel_rfl⟩,by as_aux_lemma=>kernel_rfl⟩,by as_aux_lemma=>kernel_rfl⟩,by as_aux_lemma=>kernel_rfl⟩,by as_aux_lemma=>kernel_rfl⟩,by as_aux_lemma=>kernel_rfl⟩,by as_aux_lemma=>kernel_rfl⟩,by as_aux_lemma=>kernel_rfl⟩,by as_aux_lemma=>kernel_rfl⟩,by as_aux_lemma=>kernel_rfl⟩,by as_aux_lemma=>kernel_rfl⟩,by as_aux_lemma=>kernel_rfl⟩,by as_aux_lemma=>kernel_rfl⟩,by as_aux_lemma=>kernel_rfl⟩,by as_aux_lemma=>kernel_rfl⟩,by as_aux_lemma=>kernel_rfl⟩,by as_aux_lemma=>kernel_rfl⟩,by as_aux_lemma=>kernel_rfl⟩,plainB⟩,by as_aux_lemma=>kernel_rfl⟩,heardB⟩,enterB⟩,liftB⟩,by as_aux_lemma=>kernel_rfl⟩,by as_aux_lemma=>kernel_rfl⟩,by as_aux_lemma=>kernel_rfl⟩,by as_aux_lemma=>kernel_rfl⟩,by as_aux_lemma=>kernel_rfl⟩
set_option maxRecDepth 100000 in
theorem w33:Tryz.f9.isInstance Tryz.prog Go.Proofs.YtmcdngcjakjnmaaGreatDoor.Rows.visitReplacesRow.origin Go.Proofs.YtmcdngcjakjnmaaGreatDoor.Rows.visitReplacesRow.targs:=of_decide_eq_true (by kernel_rfl)
end Go.Eng
