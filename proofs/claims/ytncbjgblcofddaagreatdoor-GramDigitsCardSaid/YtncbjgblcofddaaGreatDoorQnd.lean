/- Joined: Isw, Isx, Rla. -/
import Derived.Test.YtncbjgblcofddaaGreatDoorQnb
import Derived.Test.YtncbjgblcofddaaGreatDoorQr
import Derived.Test.YtncbjgblcofddaaGreatDoorQnc
import Derived.Test.YtncbjgblcofddaaGreatDoorQlx
import Derived.Test.YtncbjgblcofddaaGreatDoorQz
/- lll.isSmall,isShortened: the walks. -/
namespace Go.Proofs.YtncbjgblcofddaaGreatDoor
open Go Go.Eng Go.Num Go.Proofs
open Go.Det (gr bm det Sy PM Red)
theorem det_bdL {n N j:Nat} {M:Nat→Nat→Int} (hN:1≤N) (hj:j≤n) (hn:n≤16) (h:∀ i j,i < n→j < n→Bd N (M i j)):Bd (Nb N 16) (det j M):=by
 rw [← detB_det]
 exact (detB_bd hN fun a b ha hb=>h _ _ (by omega) (by omega)).mono (Nb_le16 N _ (by omega))
end Go.Proofs.YtncbjgblcofddaaGreatDoor
