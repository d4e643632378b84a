/- Insertion of one element into a row of one's own, by copies: copy at elements of several cells, and what the lists hold behind it (plain). -/
import Derived.Test.YtaibkpbklfodiaaGreatDoorP18
import Derived.Lib.Overlaps
import Derived.Lib.AppendZerosOnto
set_option linter.all false
set_option maxHeartbeats 100000000
section
namespace Dowel
open Go Go.RowKit
end Dowel
end
