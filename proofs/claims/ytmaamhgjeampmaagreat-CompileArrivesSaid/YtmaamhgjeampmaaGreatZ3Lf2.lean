/- Walks that show what functions of the program compute; printed by a program of ours. No condition. -/
import Derived.Test.YtmaamhgjeampmaaGreatZtLe
import Derived.Test.YtmaamhgjeampmaaGreatZtL4c
import Derived.Test.YtmaamhgjeampmaaGreatZtL4b
import Derived.Test.YtmaamhgjeampmaaGreatZ3D
set_option maxRecDepth 100000
namespace Go.Proofs.YtmaamhgjeampmaaGreat
open Go.Aw
set_option linter.unusedVariables false
set_option linter.unusedSimpArgs false
set_option maxHeartbeats 4000000
end Go.Proofs.YtmaamhgjeampmaaGreat
