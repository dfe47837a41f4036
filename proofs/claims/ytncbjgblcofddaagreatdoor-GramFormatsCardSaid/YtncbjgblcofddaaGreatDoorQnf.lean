/- Joined: Llk, Lll. -/
import Derived.Test.YtncbjgblcofddaaGreatDoorQne
import Derived.Test.YtncbjgblcofddaaGreatDoorQw
/- lll: improve. -/
