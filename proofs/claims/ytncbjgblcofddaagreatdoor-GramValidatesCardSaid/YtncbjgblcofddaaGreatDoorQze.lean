/- Joined: Rkp, Rkr. -/
import Derived.Test.YtncbjgblcofddaaGreatDoorQx
import Derived.Test.YtncbjgblcofddaaGreatDoorQzd
import Derived.Test.YtncbjgblcofddaaGreatDoorQw
import Derived.Test.YtncbjgblcofddaaGreatDoorQf
import Derived.Test.YtncbjgblcofddaaGreatDoorQj
/- bareiss.Rank. -/
