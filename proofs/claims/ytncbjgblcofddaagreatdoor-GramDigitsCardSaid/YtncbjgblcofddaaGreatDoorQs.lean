/- Joined: Opv. -/
import Derived.Test.YtncbjgblcofddaaGreatDoorQo
import Derived.Test.YtncbjgblcofddaaGreatDoorQn
/- Openers: five parameters; lists and matrices of int64,lists of int. -/
