/- Joined: Llk, Lll. -/
import Derived.Test.YtncbjgblcofddaaGreatDoorQne
import Derived.Test.YtncbjgblcofddaaGreatDoorQw
/- lll: improve. -/
namespace Go.Proofs.YtncbjgblcofddaaGreatDoor
open Go Go.Eng Go.Num Go.Proofs
open Go.Det (stg)
theorem Nb_le' (N:Nat) {k m:Nat} (h:k≤m):Nb N k≤Nb N m:=by
 obtain ⟨d,rfl⟩ : ∃ d,m = k + d:=⟨m - k,by omega⟩
 clear h
 induction d with
 | zero=>exact Nat.le_refl _
 | succ d ih=>exact Nat.le_trans ih (Nb_mono N (k + d))
end Go.Proofs.YtncbjgblcofddaaGreatDoor
