/- A part of the proof (part 10 of 13). -/
import Derived.Test.YthinbkgpjmjfeaaGreatDoorN9
namespace Go.Proofs.YthinbkgpjmjfeaaGreatDoor.Sh
theorem known11 : resB (callE Tryz.prog orc0 (evl Tryz.prog orc0 1000000) [] 11 [] .nil 0) = some true := by kernel_rfl
theorem g11 : GC 11 [] (.bool true) := GC_run orc0_ok 1000000 rfl known11
end Go.Proofs.YthinbkgpjmjfeaaGreatDoor.Sh
