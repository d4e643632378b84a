/- Lemmas. -/
import Derived.Lib.Overlaps
import Derived.Lib.AppendZerosOnto
import Derived.Test.YtodehkjinmgflaaGreatDoorV28
set_option linter.all false
set_option maxHeartbeats 0
set_option maxRecDepth 99999
namespace Go.Proofs.Υ
open Go Go.RowKit Tryz
section
section
variable {P : Program} {ops : Array Oper} {rest : List Oper} {op : Oper} {a : Act} {w0 : World} {Q : Exit → Act → World → Prop}
theorem sY{K:Act->World->Prop}(ty:TypeId)(x y:Operand)(i:op.op=.store ty x y)(c cells:Array Value)(j:a.eval x=.pointer (some ⟨w0.heap.size,0,none⟩))(u:a.eval y=.agg cells)(hi:(P.info? ty).map (·.size)=some cells.size)(hc:c.size=cells.size)(e:cells.all (·.oneCell')=true)(h:K (a.put op.dst undef) (w0.alloc (.cells cells ty))):op.wp P a (w0.alloc (.cells c ty)) K Q:=by
 unfold Oper.wp execOp;simp only[i,j,u,run_storeAt_new w0 ty c cells hi hc e,Sem.run_bind,Sem.run_pure,Result.andThen_ok];exact h
theorem aA(e:op.guard=none)(ty:TypeId)(x y:Operand)(j:op.op=.store ty x y)(c cells:Array Value)(u:a.eval x=.pointer (some ⟨w0.heap.size,0,none⟩))(A:a.eval y=.agg cells)(hi:(P.info? ty).map (·.size)=some cells.size)(hc:c.size=cells.size)(i:cells.all (·.oneCell')=true)(h:wpList P ops Q rest (a.put op.dst undef) (w0.alloc (.cells cells ty))):wpList P ops Q (op::rest) a (w0.alloc (.cells c ty)):=
 wpList_plain e fun _ hK=>sY ty x y j c cells u A hi hc i (hK _ _ h)
theorem aj{w:World}(e:op.guard=none)(ty:TypeId)(x:Operand)(A:op.op=.load ty x)(b o:Nat)(E:a.eval x=.pointer (some ⟨b,o,none⟩))(cs:Array Value)(d:TypeDesc)(hc:∀j,j<cs.size->w.cell? ⟨b,o+j,none⟩=cs[j]?)(C:P.underlying ty=some d)(u:d.isRow=true)(hi:(P.info? ty).map (·.size)=some cs.size)(h:wpList P ops Q rest (a.put op.dst (.agg cs)) w):wpList P ops Q (op::rest) a w:=
 wpList_load_mid e ty x A b o E cs.toList d (fun j v i=>by
  rw[Array.getElem?_toList]at i;rw[hc j (Array.getElem?_eq_some_iff.1 i).1,i]) C u (by rw[hi,Array.length_toList]) h
end
def aS(n0 n1 n2 ro:RC)(fa:Option Addr)(fl fc:Nat):Array Value:=#[.bool n0.s,.slice n0.a n0.n n0.c,.bool n0.t,.slice n0.b n0.m n0.d,.bool n1.s,.slice n1.a n1.n n1.c,.bool n1.t,.slice n1.b n1.m n1.d,.bool n2.s,.slice n2.a n2.n n2.c,.bool n2.t,.slice n2.b n2.m n2.d,.bool ro.s,.slice ro.a ro.n ro.c,.bool ro.t,.slice ro.b ro.m ro.d,.slice fa fl fc]
theorem dK(n0 C E F:RC)(i:Option Addr)(A j:Nat):(aS n0 C E F i A j).all (·.oneCell')=true:=all_oneCell_toArray (by
 intro u e;simp at e
 rcases e with rfl|rfl|rfl|rfl|rfl|rfl|rfl|rfl|rfl|rfl|rfl|rfl|rfl|rfl|rfl|rfl|rfl<;>rfl)
theorem bC(n0 i j:RC):(ah n0 i j).all (·.oneCell')=true:=all_oneCell_toArray (by
 intro u e;simp at e
 rcases e with rfl|rfl|rfl|rfl|rfl|rfl|rfl|rfl|rfl|rfl|rfl|rfl<;>rfl)
theorem Box.from0{w:World}{g:Nat}{cs:Array Value}{t:TypeId}(h:Box w g cs t)(n:Nat):∀j,j<n->w.cell? ⟨g,0+j,none⟩=cs[j]? := fun j _=>by rw[Nat.zero_add];exact h.cell j
theorem Box.at17{w:World}{g:Nat}{n0 e i j:RC}{u:Option Addr}{C A:Nat}{t:TypeId}(h:Box w g (aS n0 e i j u C A) t):w.cell? ⟨g,0,none⟩=some (.bool n0.s)/\w.cell? ⟨g,1,none⟩=some (.slice n0.a n0.n n0.c)/\w.cell? ⟨g,2,none⟩=some (.bool n0.t)/\w.cell? ⟨g,3,none⟩=some (.slice n0.b n0.m n0.d)/\w.cell? ⟨g,4,none⟩=some (.bool e.s)/\Γ12 w g 5 (.slice e.a e.n e.c) g 6 (.bool e.t) g 7 (.slice e.b e.m e.d) g 8 (.bool i.s) g 9 (.slice i.a i.n i.c) g 10 (.bool i.t) g 11 (.slice i.b i.m i.d) g 12 (.bool j.s) g 13 (.slice j.a j.n j.c) g 14 (.bool j.t) g 15 (.slice j.b j.m j.d) g 16 (.slice u C A):=
 ⟨h.cell 0,h.cell 1,h.cell 2,h.cell 3,h.cell 4,h.cell 5,h.cell 6,h.cell 7,h.cell 8,h.cell 9,h.cell 10,h.cell 11,h.cell 12,h.cell 13,h.cell 14,h.cell 15,h.cell 16⟩
end
theorem iG:(prog.info? 155).map (·.size)=some 17:=by kernel_rfl
theorem infoR4:(prog.info? 55).map (·.size)=some 4:=by kernel_rfl
theorem cG:(prog.info? 57).map (·.size)=some 12:=by kernel_rfl
theorem vec12_one(r:RC×RC×RC):∀u∈bQ r,u.oneCell'=true:=fun u e=>by
 have:=bC r.1 r.2.1 r.2.2;rw[Array.all_eq_true_iff_forall_mem]at this;exact this u (by unfold bQ at e;simpa using e)
theorem Box.src12{w:World}{g:Nat}{r:RC×RC×RC}{t:TypeId}(h:Box w g (ah r.1 r.2.1 r.2.2) t)(j:Nat)(u:Value)(e:(bQ r)[j]?=some u):w.cell? ⟨g,j,none⟩=some u:=by
 rw[h.cell,<-e];unfold bQ;rw[Array.getElem?_toList]
end Go.Proofs.Υ
