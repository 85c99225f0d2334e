/- The closed facts of the row of VisitDisputes. -/
import Derived.Test.YtmcdngcjakjnmaaGreatDoorJtn
namespace Go.Eng
open Go.Proofs Go.RowKit Go.ChangeShapes Go.WideShapes Go.ChangeAt
set_option maxRecDepth 100000 in
set_option maxHeartbeats 8000000 in
theorem w4g:joinedFacts Tryz.prog 5 Tryz.f5 Go.Proofs.YtmcdngcjakjnmaaGreatDoor.Rows.visitDisputesSpec Go.Proofs.YtmcdngcjakjnmaaGreatDoor.Rows.visitDisputesRow=true:=by
 unfold joinedFacts;simp only[Bool.and_eq_true];exact⟨⟨⟨⟨⟨⟨⟨⟨⟨⟨⟨⟨⟨⟨⟨⟨⟨⟨⟨⟨⟨⟨⟨⟨⟨⟨⟨⟨⟨⟨⟨(by as_aux_lemma=>kernel_rfl),wp2⟩,mapsB⟩,by as_aux_lemma=>kernel_rfl⟩,by as_aux_lemma=>kernel_rfl⟩,by as_aux_lemma=>kernel_rfl⟩,by as_aux_lemma=>kernel_rfl⟩,by as_aux_lemma=>kernel_rfl⟩,by as_aux_lemma=>kernel_rfl⟩,by as_aux_lemma=>kernel_rfl⟩,by as_aux_lemma=>kernel_rfl⟩,by as_aux_lemma=>kernel_rfl⟩,by as_aux_lemma=>kernel_rfl⟩,by as_aux_lemma=>kernel_rfl⟩,by as_aux_lemma=>kernel_rfl⟩,by as_aux_lemma=>kernel_rfl⟩,by as_aux_lemma=>kernel_rfl⟩,by as_aux_lemma=>kernel_rfl⟩,by as_aux_lemma=>kernel_rfl⟩,by as_aux_lemma=>kernel_rfl⟩,by as_aux_lemma=>kernel_rfl⟩,by as_aux_lemma=>kernel_rfl⟩,plainB⟩,by as_aux_lemma=>kernel_rfl⟩,heardB⟩,enterB⟩,liftB⟩,by as_aux_lemma=>kernel_rfl⟩,by as_aux_lemma=>kernel_rfl⟩,by as_aux_lemma=>kernel_rfl⟩,by as_aux_lemma=>kernel_rfl⟩,by as_aux_lemma=>kernel_rfl⟩
set_option maxRecDepth 100000 in
theorem inst_Bd:Tryz.f5.isInstance Tryz.prog Go.Proofs.YtmcdngcjakjnmaaGreatDoor.Rows.visitDisputesRow.origin Go.Proofs.YtmcdngcjakjnmaaGreatDoor.Rows.visitDisputesRow.targs:=of_decide_eq_true (by kernel_rfl)
end Go.Eng
