/- Package cell: Hull. -/
import Derived.Test.YtaibkpbklfodiaaGreatDoorP40
import Derived.Test.YtaibkpbklfodiaaGreatDoorP19
import Derived.Test.YtaibkpbklfodiaaGreatDoorP21
set_option linter.all false
set_option maxHeartbeats 100000000
section
namespace Dowel
open Go Go.RowKit Go.Proofs.Υ
end Dowel
namespace Go.Proofs.Υ
open Go.RowKit Dowel
open Classical
end Go.Proofs.Υ
end
