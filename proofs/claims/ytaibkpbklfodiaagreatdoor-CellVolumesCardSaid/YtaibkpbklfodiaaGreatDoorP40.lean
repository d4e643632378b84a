/- The hull by the rings of the sorted points is the reference's (plain). slices.Compact at points. -/
import Derived.Test.YtaibkpbklfodiaaGreatDoorP19
import Derived.Test.YtaibkpbklfodiaaGreatDoorP2
import Derived.Lib.SlicesCompact
import Derived.Lib.SliceRun
set_option linter.all false
set_option maxHeartbeats 100000000
section
namespace Dowel
open V Go Go.Lib Go.Proofs.Υ
end Dowel
end

section
namespace Dowel
open Go Go.RowKit Go.Proofs Go.Sort Go.Lib
section
variable {w : World} {base g n cap k : Nat} {t : TypeId} {xs : List Value}
end
end Dowel
namespace Go.Proofs.Υ
open Go.RowKit Dowel Go.Lib
end Go.Proofs.Υ
end
