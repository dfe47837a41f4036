/- Joined: Rtr, Lgf. -/
import Derived.Test.YtncbjgblcofddaaGreatDoorQnh
import Derived.Test.YtncbjgblcofddaaGreatDoorQze
import Derived.Test.YtncbjgblcofddaaGreatDoorQoj
import Derived.Test.YtncbjgblcofddaaGreatDoorQf
import Derived.Test.YtncbjgblcofddaaGreatDoorQon
/- The reference's Transform. -/
namespace Go.Proofs.YtncbjgblcofddaaGreatDoor
open Go Go.Eng Go.Num Go.Proofs
open Go.Det (det)
def cgM (r:Nat) (M T:Nat→Nat→Int):Nat→Nat→Int:=mulM r (fun i j=>T j i) (mulM r M T)
end Go.Proofs.YtncbjgblcofddaaGreatDoor
