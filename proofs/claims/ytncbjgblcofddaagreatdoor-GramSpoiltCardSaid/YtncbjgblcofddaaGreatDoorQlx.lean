/- Joined: Exp. -/
import Derived.Test.YtncbjgblcofddaaGreatDoorQn
/- quadformlaw03.expansion,and the law MatrixExpansion. -/
