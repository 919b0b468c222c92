/- A part of the proof: RwD. -/
import Derived.Test.YtfainocfaddbdaaGreatT25
set_option linter.all false
namespace Go.Proofs.YtfainocfaddbdaaGreat
open Go
set_option maxRecDepth 100000
set_option maxHeartbeats 2000000

end Go.Proofs.YtfainocfaddbdaaGreat
