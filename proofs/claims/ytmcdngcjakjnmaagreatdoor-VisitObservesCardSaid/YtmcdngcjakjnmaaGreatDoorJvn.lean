/- Closed facts of the program that all rows share. -/
import Derived.Test.YtmcdngcjakjnmaaGreatDoorJvm
namespace Go.Eng
open Go.Proofs
set_option maxRecDepth 100000 in
theorem mapsB:mapsRowed Tryz.prog=true:=by kernel_rfl
set_option maxRecDepth 100000 in
theorem plainB:(Go.Proofs.YtmcdngcjakjnmaaGreatDoor.Rows.visitObservesRow.plainKeys==Tryz.prog.plainKeys)=true:=by kernel_rfl
set_option maxRecDepth 100000 in
theorem heardB:Tryz.prog.stopsHeard=true:=by kernel_rfl
set_option maxRecDepth 100000 in
theorem enterB:Tryz.prog.mayEnter=true:=by kernel_rfl
set_option maxRecDepth 100000 in
theorem liftB:(Go.Proofs.YtmcdngcjakjnmaaGreatDoor.Rows.visitObservesRow.lifted==Tryz.prog.liftsFinal)=true:=by kernel_rfl
end Go.Eng
