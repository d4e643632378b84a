/- slices.Compact at points. -/
import Derived.Test.YtaibkpbklfodiaaGreatDoorP19
import Derived.Lib.SlicesCompact
import Derived.Lib.SliceRun
set_option linter.all false
set_option maxHeartbeats 100000000
section
namespace Dowel
open Go Go.RowKit Go.Proofs Go.Sort Go.Lib
section
variable {w : World} {base g n cap k : Nat} {t : TypeId} {xs : List Value}
end
theorem jU.cellAt {w:World} {base g n cap:Nat} {L:List V} (h:jU w base (.slice (some ⟨g,0,none⟩) n cap) L) {i:Nat} (hi:i<L.length) :
  w.cell? ⟨g,i*3,none⟩=some (.int .i64 (L.getD i default).x)∧w.cell? ⟨g,i*3+1,none⟩=some (.int .i64 (L.getD i default).y)∧w.cell? ⟨g,i*3+2,none⟩=some (.int .i64 (L.getD i default).z):=by
 obtain ⟨b1,_,e1,-,-,-,c1⟩:=dE.at_ o9 h i _ (getD_some default hi);cases e1;exact ⟨c1 0 ω,c1 1 ω,c1 2 ω⟩
end Dowel
namespace Go.Proofs.Υ
open Go.RowKit Dowel Go.Lib
end Go.Proofs.Υ
end
