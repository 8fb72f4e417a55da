/- A part of the proof (part 9 of 17). -/
import Derived.Test.YthinbkgpjmjfeaaGreatDoorN8
namespace Go.Proofs.YthinbkgpjmjfeaaGreatDoor.Sh
open Go.Proofs.Tryz
theorem Zy:dY (NM prog dO (Zo prog dO 1000000) [] 11 [] .nil 0)=some true:=by kernel_rfl
theorem fE:GC 11 [] (.bool true):=bv orc0_ok 1000000 rfl Zy
end Go.Proofs.YthinbkgpjmjfeaaGreatDoor.Sh
