/- A part of the proof (part 9 of 18). -/
import Derived.Test.YthinbkgpjmjfeaaGreatDoorM8
namespace Go.Proofs.YthinbkgpjmjfeaaGreatDoor.Sh
open Go.Proofs.Tryz
theorem aC:dy (NT prog di (Z0 prog di 1000000) [] 11 [] .nil 0)=some true:=by kernel_rfl
theorem ja:GC 11 [] (.bool true):=cR orc0_ok 1000000 rfl aC
end Go.Proofs.YthinbkgpjmjfeaaGreatDoor.Sh
