/- '==' of two vectors of ints. '==' of two points of texts. -/
import Derived.Test.YtaibkpbklfodiaaGreatDoorP1
import Derived.Laws.StructEq
set_option linter.all false
set_option maxHeartbeats 100000000
section
namespace Go.Proofs.Υ
open Go.RowKit Dowel
theorem eq46 (a b c d e f:Int) (w:World):(Op.equalIn 10000 46 (.agg #[.int .i64 a,.int .i64 b,.int .i64 c]) (.agg #[.int .i64 d,.int .i64 e,.int .i64 f])).run Tryz.prog w=.ok (a == d && b == e && c == f) w:=by
 have u3:=Tryz.underlying3;have a3:=Tryz.isAgg3;have z3:=Tryz.sizeOf3;rw [show (10000:Nat)=9999+1 from rfl,Op.equalIn];simp only [Sem.run_bind,run_underlying Tryz.underlying46,Result.andThen_ok];simp only [Std.Legacy.Range.forIn_eq_forIn_range',Std.Legacy.Range.size,Nat.sub_zero,Nat.add_sub_cancel,Nat.div_one,List.range'_succ,List.range'_zero,List.forIn_cons,List.forIn_nil];go_simp;by_cases h1:a=d <;> by_cases h2:b=e <;> by_cases h3:c=f <;> simp [h1,h2,h3]
end Go.Proofs.Υ
end

section
namespace Go.Proofs.Υ
open Go.RowKit Dowel
theorem eqPoint (a b c:ByteArray) (w:World):(Op.equalIn 10000 107 (.agg #[.string a,.string b,.string c]) (.agg #[.string a,.string b,.string c])).run Tryz.prog w=.ok true w:=by
 have u3:=Tryz.underlying104;have a3:=Tryz.isAgg104;have z3:=Tryz.sizeOf104;rw [show (10000:Nat)=9999+1 from rfl,Op.equalIn];simp only [Sem.run_bind,run_underlying Tryz.underlying107,Result.andThen_ok];simp only [Std.Legacy.Range.forIn_eq_forIn_range',Std.Legacy.Range.size,Nat.sub_zero,Nat.add_sub_cancel,Nat.div_one,List.range'_succ,List.range'_zero,List.forIn_cons,List.forIn_nil];go_simp
end Go.Proofs.Υ
end
