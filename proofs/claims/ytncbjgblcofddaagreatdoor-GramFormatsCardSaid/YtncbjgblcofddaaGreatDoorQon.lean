/- Joined: Rdu, Lgc. -/
import Derived.Test.YtncbjgblcofddaaGreatDoorQoi
import Derived.Test.YtncbjgblcofddaaGreatDoorQn
import Derived.Test.YtncbjgblcofddaaGreatDoorQf
import Derived.Test.YtncbjgblcofddaaGreatDoorQok
/- The reference's Dual and Pow. -/
