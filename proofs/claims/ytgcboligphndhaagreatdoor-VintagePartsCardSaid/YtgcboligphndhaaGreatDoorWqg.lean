/- Closed facts of the program that all rows share. -/
import Derived.Test.YtgcboligphndhaaGreatDoorWqf
namespace Go.Eng
open Go.Proofs
set_option maxRecDepth 100000 in
theorem mapsB:mapsRowed Tryz.prog=true:=by kernel_rfl
set_option maxRecDepth 100000 in
theorem plainB:(Go.Proofs.YtgcboligphndhaaGreatDoor.Rows.collectionMarksRow.plainKeys==Tryz.prog.plainKeys)=true:=by kernel_rfl
set_option maxRecDepth 100000 in
theorem heardB:Tryz.prog.stopsHeard=true:=by kernel_rfl
set_option maxRecDepth 100000 in
theorem enterB:Tryz.prog.mayEnter=true:=by kernel_rfl
set_option maxRecDepth 100000 in
theorem liftB:(Go.Proofs.YtgcboligphndhaaGreatDoor.Rows.collectionMarksRow.lifted==Tryz.prog.liftsFinal)=true:=by kernel_rfl
end Go.Eng
