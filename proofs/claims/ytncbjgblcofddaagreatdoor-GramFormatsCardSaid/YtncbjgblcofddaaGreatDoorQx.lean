/- Joined: Exc, Sol. -/
import Derived.Test.YtncbjgblcofddaaGreatDoorQu
import Derived.Test.YtncbjgblcofddaaGreatDoorQv
import Derived.Test.YtncbjgblcofddaaGreatDoorQn
/- bareiss.exchange; the entries of Solve's table. -/
