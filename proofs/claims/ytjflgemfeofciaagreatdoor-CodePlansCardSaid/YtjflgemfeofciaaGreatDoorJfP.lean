import Derived.Test.YtjflgemfeofciaaGreatDoorLawF
namespace Go.Proofs.YtjflgemfeofciaaGreatDoor
open Go.ChangeShapes Go.WideShapes Go.ChangeAt Go.RowKit
set_option maxRecDepth 100000
theorem an {a b:Bool} (h:a=true) (k:b=true):(a && b)=true:=by rw [h,k];rfl
theorem jf_maps:mapsRowed Tryz.prog=true:=by kernel_rfl
theorem jf_stops:(Tryz.prog.stops == [])=true:=by kernel_rfl
theorem jf_knobs:(Tryz.prog.stopKnobs == [])=true:=by kernel_rfl
theorem jf_heard:Tryz.prog.stopsHeard=true:=by kernel_rfl
theorem jf_enter:Tryz.prog.mayEnter=true:=by kernel_rfl
end Go.Proofs.YtjflgemfeofciaaGreatDoor
