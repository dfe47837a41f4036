/- Joined: Exp. -/
import Derived.Test.YtmkbpjoihdfpkaaGreatQn
/- quadformlaw03.expansion,and the law MatrixExpansion. -/
namespace Go.Proofs.YtmkbpjoihdfpkaaGreat
open Go Go.Eng Go.Num Go.Proofs
end Go.Proofs.YtmkbpjoihdfpkaaGreat
