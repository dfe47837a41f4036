/- Joined: Rkp. -/
import Derived.Test.YtncbjgblcofddaaGreatDoorQx
import Derived.Test.YtncbjgblcofddaaGreatDoorQzd
import Derived.Test.YtncbjgblcofddaaGreatDoorQw
import Derived.Test.YtncbjgblcofddaaGreatDoorQf
/- bareiss.Rank. -/
