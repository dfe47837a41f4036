/- Joined: Rqb, Rqc. -/
import Derived.Test.YtncbjgblcofddaaGreatDoorQzb
/- quadformref02: Whole,Small,Normalize,Mul,Add,Neg,Sub,Sign,Cmp. -/
