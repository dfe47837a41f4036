/- Joined: Min. -/
import Derived.Test.YtncbjgblcofddaaGreatDoorQr
/- Minors. -/
