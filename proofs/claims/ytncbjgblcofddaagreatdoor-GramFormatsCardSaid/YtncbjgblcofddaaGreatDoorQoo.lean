/- Joined: Rgc, Giv. -/
import Derived.Test.YtncbjgblcofddaaGreatDoorQon
import Derived.Test.YtncbjgblcofddaaGreatDoorQzb
import Derived.Test.YtncbjgblcofddaaGreatDoorQnh
import Derived.Test.YtncbjgblcofddaaGreatDoorQu
/- The reference's Divides. -/
namespace Go.Proofs.YtncbjgblcofddaaGreatDoor
open Go Go.Eng Go.Num Go.Proofs
open Go.Det (det)
theorem Bx.un {w:World} {g N:Nat} {cn:Bool} {z:Int} (h:Bx w g N cn z):Bx w g N false z:=by
 obtain ⟨x,y,h1,h2⟩:=h
 exact ⟨x,y,h1,h2.1,fun e=>by cases e⟩
end Go.Proofs.YtncbjgblcofddaaGreatDoor
