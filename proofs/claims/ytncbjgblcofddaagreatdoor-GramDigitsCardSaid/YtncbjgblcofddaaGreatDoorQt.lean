/- Joined: Min. -/
import Derived.Test.YtncbjgblcofddaaGreatDoorQr
/- Minors. -/
namespace Go.Proofs.YtncbjgblcofddaaGreatDoor
open Go Go.Eng Go.Num Go.Proofs
theorem want_undef {n:Nat} {ops:Array Oper} {f:Fr} {o:Oper} {j:Nat} {b:Bool} {t:Tmp} (h:o.guard = some (j,b)) (hj:(ops[j]?).bind (·.dst) = some t) (ht:ev n f (.tmp t) = undef):want n ops f o = false:=by
 by_cases hlt:t < n
 · have hn:Nat.blt t n = true:=by simpa [Nat.blt_eq] using hlt
   have hv:f t = undef:=by simpa [ev,hn] using ht
   simp [want,Region.wanted,h,yielded,hj,act,hlt,hv,undef]
 · simp [want,Region.wanted,h,yielded,hj,act,hlt]
end Go.Proofs.YtncbjgblcofddaaGreatDoor
