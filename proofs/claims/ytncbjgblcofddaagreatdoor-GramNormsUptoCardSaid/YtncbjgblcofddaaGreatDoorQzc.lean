/- Joined: Rqb, Rqc. -/
import Derived.Test.YtncbjgblcofddaaGreatDoorQzb
/- quadformref02: Whole,Small,Normalize,Mul,Add,Neg,Sub,Sign,Cmp. -/
namespace Go.Proofs.YtncbjgblcofddaaGreatDoor
open Go Go.Eng Go.Num Go.Proofs
def Qv (w:World) (N:Nat) (x y x' y':Value) (a b:Int):Prop:=∃ n d,CV w x y n∧CV w x' y' d∧Bd N n∧Bd N d∧0 < d∧n * b = a * d
theorem Qv.red {w:World} {N:Nat} {x y x' y':Value} {a b c:Int} (h:Qv w N x y x' y' (a * c) (b * c)) (hc:c ≠ 0):Qv w N x y x' y' a b:=by
 obtain ⟨n,d,h1,h2,h3,h4,h5,h6⟩:=h
 refine ⟨n,d,h1,h2,h3,h4,h5,Int.eq_of_mul_eq_mul_right hc ?_⟩
 rw [Int.mul_assoc,h6]; grind
end Go.Proofs.YtncbjgblcofddaaGreatDoor
