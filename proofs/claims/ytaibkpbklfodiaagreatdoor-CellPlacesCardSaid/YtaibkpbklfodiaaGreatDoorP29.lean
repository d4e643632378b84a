/- A whole value into the block that was made last, as one step of the walk. -/
import Derived.Test.YtaibkpbklfodiaaGreatDoorP17
import Derived.Deep.WholeRow
import Derived.Deep.MidRow
set_option linter.all false
set_option maxHeartbeats 100000000
section
namespace Dowel
open Go
section
variable {P : Program} {ops : Array Oper} {rest : List Oper} {op : Oper} {a : Act} {w0 : World} {Q : Exit → Act → World → Prop}
theorem o6 {K:Act→World→Prop} (ty:TypeId) (x y:Operand) (ho:op.op=.store ty x y) (c cells:Array Value) (hx:a.eval x=.pointer (some ⟨w0.heap.size,0,none⟩)) (hy:a.eval y=.agg cells)
  (hi:(P.info? ty).map (·.size)=some cells.size) (hc:c.size=cells.size) (h1:cells.all (·.oneCell')=true) (h:K (a.put op.dst undef) (w0.alloc (.cells cells ty))):op.wp P a (w0.alloc (.cells c ty)) K Q:=by
 unfold Oper.wp execOp;simp only [ho,hx,hy,run_storeAt_new w0 ty c cells hi hc h1,Sem.run_bind,Sem.run_pure,Result.andThen_ok];exact h
theorem aB (hgd:op.guard=none) (ty:TypeId) (x y:Operand) (ho:op.op=.store ty x y) (c cells:Array Value) (hx:a.eval x=.pointer (some ⟨w0.heap.size,0,none⟩)) (hy:a.eval y=.agg cells)
  (hi:(P.info? ty).map (·.size)=some cells.size) (hc:c.size=cells.size) (h1:cells.all (·.oneCell')=true) (h:wpList P ops Q rest (a.put op.dst undef) (w0.alloc (.cells cells ty))):wpList P ops Q (op :: rest) a (w0.alloc (.cells c ty)):=
 wpList_plain hgd fun _ hK=>o6 ty x y ho c cells hx hy hi hc h1 (hK _ _ h)
theorem aq {w:World} (hgd:op.guard=none) (ty:TypeId) (x:Operand) (ho:op.op=.load ty x) (b o:Nat) (hx:a.eval x=.pointer (some ⟨b,o,none⟩)) (cs:Array Value) (d:TypeDesc)
  (hc:∀ j,j<cs.size→w.cell? ⟨b,o+j,none⟩=cs[j]?) (hu:P.underlying ty=some d) (hd:d.isRow=true) (hi:(P.info? ty).map (·.size)=some cs.size)
  (h:wpList P ops Q rest (a.put op.dst (.agg cs)) w):wpList P ops Q (op :: rest) a w:=
 wpList_load_mid hgd ty x ho b o hx cs.toList d (fun j v hv=>by
  rw [Array.getElem?_toList] at hv;rw [hc j (Array.getElem?_eq_some_iff.1 hv).1,hv]) hu hd (by rw [hi,Array.length_toList]) h
end
def aL (n0 n1 n2 ro:RC) (fa:Option Addr) (fl fc:Nat):Array Value:=#[.bool n0.s,.slice n0.a n0.n n0.c,.bool n0.t,.slice n0.b n0.m n0.d,.bool n1.s,.slice n1.a n1.n n1.c,.bool n1.t,.slice n1.b n1.m n1.d,.bool n2.s,.slice n2.a n2.n n2.c,.bool n2.t,.slice n2.b n2.m n2.d,.bool ro.s,.slice ro.a ro.n ro.c,.bool ro.t,.slice ro.b ro.m ro.d,.slice fa fl fc]
theorem eH (n0 n1 n2 ro:RC) (fa:Option Addr) (fl fc:Nat):(aL n0 n1 n2 ro fa fl fc).all (·.oneCell')=true:=all_oneCell_toArray (by
 intro u hu;simp at hu
 rcases hu with rfl | rfl | rfl | rfl | rfl | rfl | rfl | rfl | rfl | rfl | rfl | rfl | rfl | rfl | rfl | rfl | rfl <;> rfl)
theorem bU (n0 n1 n2:RC):(ah n0 n1 n2).all (·.oneCell')=true:=all_oneCell_toArray (by
 intro u hu;simp at hu
 rcases hu with rfl | rfl | rfl | rfl | rfl | rfl | rfl | rfl | rfl | rfl | rfl | rfl <;> rfl)
theorem Box.from0 {w:World} {g:Nat} {cs:Array Value} {t:TypeId} (h:Box w g cs t) (n:Nat):∀ j,j<n→w.cell? ⟨g,0+j,none⟩=cs[j]? := fun j _=>by rw [Nat.zero_add];exact h.cell j
end Dowel
namespace Go.Proofs.Υ
theorem fu:(Tryz.prog.info? 98).map (·.size)=some 17:=by kernel_rfl
theorem infoR4:(Tryz.prog.info? 56).map (·.size)=some 4:=by kernel_rfl
theorem mf:(Tryz.prog.info? 58).map (·.size)=some 12:=by kernel_rfl
end Go.Proofs.Υ
end
