/- Values that are built of rationals, and of planes. -/
import Derived.Test.YtaibkpbklfodiaaGreatDoorPA
import Derived.Test.YtaibkpbklfodiaaGreatDoorProg
import Derived.Laws.Tables
import Derived.ProofKit
set_option linter.all false
set_option maxHeartbeats 100000000
section
namespace Dowel
open Go
theorem mC {P:Program} {o:Oper} {a:Act} {w:World} {K:Act→World→Prop} {Q:Exit→Act→World→Prop} (t:TypeId) (parts:Array (Nat × Operand)) (ho:o.op=.build t parts) (cells:Array Value)
  (hf:P.built t (parts.map fun (i,x)=>(i,a.eval x)).toList=some cells) (h:K (a.put o.dst (.agg cells)) w):o.wp P a w K Q:=
 wp_build t parts ho (by rw [hf];rfl) (by rw [hf];exact h)
end Dowel
namespace Go.Proofs.Υ
open Go.RowKit Dowel
theorem built_vec (s0 t0 s1 t1 s2 t2:Bool) (a0 b0 a1 b1 a2 b2:Option Addr) (n0 c0 m0 d0 n1 c1 m1 d1 n2 c2 m2 d2:Nat) :
  Tryz.prog.built 58 [(0,.agg #[.bool s0,.slice a0 n0 c0,.bool t0,.slice b0 m0 d0]),(1,.agg #[.bool s1,.slice a1 n1 c1,.bool t1,.slice b1 m1 d1]),(2,.agg #[.bool s2,.slice a2 n2 c2,.bool t2,.slice b2 m2 d2])] =
   some #[.bool s0,.slice a0 n0 c0,.bool t0,.slice b0 m0 d0,.bool s1,.slice a1 n1 c1,.bool t1,.slice b1 m1 d1,.bool s2,.slice a2 n2 c2,.bool t2,.slice b2 m2 d2]:=by kernel_rfl
theorem built_face (x y z o:Int) (a:Option Addr) (n c:Nat) :
  Tryz.prog.built 50 [(0,.agg #[.int .i64 x,.int .i64 y,.int .i64 z,.int .i64 o]),(1,.slice a n c)]=some #[.int .i64 x,.int .i64 y,.int .i64 z,.int .i64 o,.slice a n c]:=by kernel_rfl
end Go.Proofs.Υ
end
