/- A part of the proof: KuA. -/
import Derived.Test.YtaeaffgjdcigoaaGreatG37
import Derived.Test.YtaeaffgjdcigoaaGreatG34
set_option linter.all false
namespace Go.Proofs.YtaeaffgjdcigoaaGreat
open Go
set_option maxRecDepth 100000
set_option maxHeartbeats 8000000

end Go.Proofs.YtaeaffgjdcigoaaGreat
