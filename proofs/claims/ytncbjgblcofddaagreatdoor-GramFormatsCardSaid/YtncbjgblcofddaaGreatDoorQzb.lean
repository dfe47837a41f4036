/- Joined: Rqa, Grr, Rsl. -/
import Derived.Test.YtncbjgblcofddaaGreatDoorQu
import Derived.Test.YtncbjgblcofddaaGreatDoorQx
import Derived.Test.YtncbjgblcofddaaGreatDoorQj
import Derived.Test.YtncbjgblcofddaaGreatDoorQk
/- quadformref01: Rem,Gcd; quadformref02.New. -/
namespace Go.Proofs.YtncbjgblcofddaaGreatDoor
open Go Go.Eng Go.Num Go.Proofs
theorem blkQ {w:World} {g T:Nat} {x y z u:Value} (h:Blk w g T #[x,y,z,u]):w.cell? ⟨g,0,none⟩ = some x∧w.cell? ((⟨g,0,none⟩ : Addr).add 1) = some y∧w.cell? ((⟨g,0,none⟩ : Addr).add 2) = some z∧w.cell? ((⟨g,0,none⟩ : Addr).add 3) = some u:=by
 refine ⟨by rw [h.cell]; rfl,by rw [add_lit,h.cell]; rfl,by rw [add_lit,h.cell]; rfl,by rw [add_lit,h.cell]; rfl⟩
end Go.Proofs.YtncbjgblcofddaaGreatDoor
