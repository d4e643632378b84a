/- Lemmas. -/
import Derived.Test.YtodehkjinmgflaaGreatDoorV53
import Derived.Test.YtodehkjinmgflaaGreatDoorRows
import Derived.Deep.Strs
import Derived.LaidMore
import Derived.Stop.Joined
set_option linter.all false
set_option maxHeartbeats 0
set_option maxRecDepth 99999
namespace Go.Proofs.Υ
open Go Go.RowKit Tryz
section
open Go.ChangeShapes Go.WideShapes Go.ChangeAt Go.WideElems
theorem own:ownKnob prog.godebug=none:=by kernel_rfl
theorem laidOut:laidOutB prog=true:=by kernel_rfl
theorem add_none(b off k:Nat):(⟨b,off,none⟩:Addr).add k=⟨b,off+k,none⟩:=by
 unfold Addr.add
 split
 ·rename_i h
  have:k=0:=by simpa using h
  subst this
  rfl
 ·rfl
theorem i8_in{k:Int}(h:(Lit.int .i8 k).wf=true):-128<=k/\k<=127:=by
 simp only[Lit.wf,Bool.and_eq_true,decide_eq_true_eq]at h;have e:IntKind.i8.min=-128:=by decide
 have i:IntKind.i8.max=127:=by decide
 rw[e,i]at h;exact h
theorem u8_in{k:Int}(h:(Lit.int .u8 k).wf=true):∃n:Nat,k=n/\n<256:=by
 simp only[Lit.wf,Bool.and_eq_true,decide_eq_true_eq]at h;have e:IntKind.u8.min=0:=by decide
 have i:IntKind.u8.max=255:=by decide
 rw[e,i]at h;exact⟨k.toNat,by omega,by omega⟩
theorem tU{H:Type}{enc:TypeId×Value->H}{W:World}{u n:Nat}{t e:TypeId}{k:IntKind}{cl:List Value}{x:DataW H×List MemPlace}(G:prog.underlying t=some (.array n e))(C:prog.underlying e=some (.int k))(hc:prog.cellsOf e=1)(F:prog.cellsOf t=n)(h:DataW.trod enc prog W 0 (fun _=>true) true u t cl=some x):∃f:Nat->Int,cl=(List.range n).map (fun i=>Value.int k (f i))/\∀i,(i<n->(Lit.int k (f i)).wf=true)/\(n<=i->f i=0):=by
 obtain⟨xs,m,-,-,E,L,J⟩:=DataW.trod_array G h;rw[F]at E;have hi:∀i,i<n->∃z,cl[i]?=some (.int k z)/\(Lit.int k z).wf=true:=fun i hi=>by
  have c:=J i hi;rw[hc,Nat.mul_one]at c;obtain⟨y,Q⟩:∃y,xs[i]?=some y:=⟨_,List.getElem?_eq_getElem I⟩;rw[Q]at c;obtain⟨z,j,-,w⟩:=DataW.trod_int C c;refine⟨z,?_,w⟩;have h0:((cl.drop i).take 1)[0]?=some (.int k z):=by rw[j];rfl
  rwa [List.getElem?_take_of_lt I,List.getElem?_drop,Nat.add_zero]at h0
 refine⟨fun i=>match cl[i]? with|some (.int _ z)=>z|_=>0,List.ext_getElem? fun i=>?_,fun i=>⟨fun A=>?_,fun A=>?_⟩⟩
 ·by_cases A:i<n
  ·obtain⟨z,j,-⟩:=hi i A
   rw[List.getElem?_map,List.getElem?_range A,j];simp[j]
  ·rw[List.getElem?_eq_none I,List.getElem?_eq_none (by simp;omega)]
 ·obtain⟨z,j,w⟩:=hi i A
  simp only[j];exact w
 ·simp only[List.getElem?_eq_none (show cl.length<=i by omega)]
theorem small_of{f:Nat->Int}{n:Nat}(e:∀i,(i<n->(Lit.int .i8 (f i)).wf=true)/\(n<=i->f i=0)):fN f:=fun i=>by
 by_cases hi:i<n
 ·exact i8_in ((e i).1 hi)
 ·rw[(e i).2 I];omega
theorem cellsSm{H:Type}{enc:TypeId×Value->H}{W:World}{i:Nat}{cl:List Value}{x:DataW H×List MemPlace}(h:DataW.trod enc prog W 0 (fun _=>true) true i 29 cl=some x):
 ∃(N:Nat->Int) (D:Nat),cl=(smIn N D).toList/\fN N/\D<256:=by
 obtain⟨E,F,n,-,j,h0,A⟩:=trod_struct2 underlying29 h;rw[show prog.cellsOf 29=4 by kernel_rfl]at j
 match cl,j with
 | [c0,c1,c2,c3],_ =>
  obtain⟨f,e,C⟩:=tU (cl:=[c0,c1,c2]) underlying27 underlying25 Z Z h0;obtain⟨z,u,-,w⟩:=DataW.trod_int (cs:=[c3]) underlying5 A;obtain⟨D,rfl,hD⟩:=u8_in w;cases e;cases u;exact⟨f,D,rfl,small_of C,hD⟩
theorem cellsPl{H:Type}{enc:TypeId×Value->H}{W:World}{i:Nat}{cl:List Value}{x:DataW H×List MemPlace}(h:DataW.trod enc prog W 0 (fun _=>true) true i 31 cl=some x):
 ∃(T N:Nat->Int) (D:Nat),cl=(ly T N D).toList/\fN T/\fN N/\D<256:=by
 obtain⟨F,G,n,-,j,h0,A⟩:=trod_struct2 underlying31 h;rw[show prog.cellsOf 31=8 by kernel_rfl]at j
 match cl,j with
 | [c0,c1,c2,c3,c4,c5,c6,c7],_ =>
  obtain⟨f,e,E⟩:=tU (cl:=[c0,c1,c2,c3]) underlying26 underlying25 Z Z h0;obtain⟨N,D,u,C,hD⟩:=cellsSm (cl:=[c4,c5,c6,c7]) A;cases e;cases u;exact⟨f,N,D,rfl,small_of E,C,hD⟩
def pl2(T N T' N':Nat->Int)(D D':Nat):Array Value:=((ly T N D).toList++(ly T' N' D').toList).toArray
theorem place_arg{H:Type}{enc:TypeId×Value->H}{W:World}{base:Nat}{v:Value}{d:DataW H}{p:List MemPlace}(i:Value.okWide prog W .any base 31 v)(h0:DataW.Trod enc prog W 0 (fun _=>true) true 31 v d p):
 ∃(T N:Nat->Int) (D:Nat),v=.agg (ly T N D)/\fN T/\fN N/\D<256:=by
 unfold Value.okWide at i;rw[underlying31]at i;obtain⟨cs,rfl,-⟩:=i;obtain⟨j,h0⟩:=h0;obtain⟨T,N,D,e,h⟩:=cellsPl h0;exact⟨T,N,D,by rw[show cs=ly T N D from Array.toList_inj.mp e],h⟩
theorem cellsBl{H:Type}{enc:TypeId×Value->H}{W:World}{A:Nat}{cl:List Value}{x:DataW H×List MemPlace}(h:DataW.trod enc prog W 0 (fun _=>true) true A 106 cl=some x):
 ∃b:Blk,cl=(eM b).toList/\b.ok:=by
 obtain⟨U,X,Y,n,-,E,h0,J,L⟩:=Deep.trod_struct3 underlying106 h;rw[show prog.cellsOf 106=7 by kernel_rfl]at E
 match cl,E with
 | [c0,c1,c2,c3,c4,c5,c6],_ =>
  obtain⟨z,e,-,w⟩:=DataW.trod_int (cs:=[c0]) underlying5 h0;obtain⟨f,F,u⟩:=tU (cl:=[c1,c2,c3]) underlying104 underlying5 Z Z J;obtain⟨g,G,C⟩:=tU (cl:=[c4,c5,c6]) underlying104 underlying5 Z Z L;obtain⟨k,rfl,Q⟩:=u8_in w;have j:∀{f:Nat->Int},(∀i,(i<3->(Lit.int .u8 (f i)).wf=true)/\(3<=i->f i=0))->∀i,((f i).toNat:Int)=f i/\(f i).toNat<256:=fun u i=>by
   by_cases hi:i<3
   ·obtain⟨m,e,R⟩:=u8_in ((u i).1 hi)
    rw[e];exact⟨rfl,R⟩
   ·rw[(u i).2 I];exact⟨rfl,by decide⟩
  cases e;cases F;cases G;refine⟨⟨k,fun i=>(f i).toNat,fun i=>(g i).toNat⟩,?_,Q,fun i=>⟨(j u i).2,(j C i).2⟩⟩;show[Value.int .u8 (k:Int),.int .u8 (f 0),.int .u8 (f 1),.int .u8 (f 2),.int .u8 (g 0),.int .u8 (g 1),.int .u8 (g 2)]=[.int .u8 (k:Int),.int .u8 ((f 0).toNat:Int),.int .u8 ((f 1).toNat:Int),.int .u8 ((f 2).toNat:Int),.int .u8 ((g 0).toNat:Int),.int .u8 ((g 1).toNat:Int),.int .u8 ((g 2).toNat:Int)];rw[(j u 0).1,(j u 1).1,(j u 2).1,(j C 0).1,(j C 1).1,(j C 2).1]
theorem body_arg{H:Type}{enc:TypeId×Value->H}{W:World}{base:Nat}{v:Value}{d:DataW H}{p:List MemPlace}(hv:Value.okWide prog W .any base 24 v)(h0:DataW.Trod enc prog W 0 (fun _=>true) true 24 v d p):
 ∃(D:Nat) (a:Option Addr) (len A:Nat) (B:Nat->Blk),v=.agg #[.int .u8 (D:Nat),.slice a len A]/\D<256/\len<=9223372036854775807/\Blks W a len A B:=by
 unfold Value.okWide at hv;rw[underlying24]at hv;obtain⟨cs,rfl,Q,ts,R,-,J⟩:=hv;rw[show prog.cellsOf 24=2 by kernel_rfl]at Q;obtain⟨l⟩:=cs
 match l,Q with
 | [c0,c],_ =>
  rw[show prog.cellTypes prog.depth 24=some [5,22] by kernel_rfl]at R;cases R;obtain⟨u,hu,hc⟩:=J 1 c rfl;cases hu;obtain⟨ac,h0⟩:=h0;obtain⟨y0,y1,n,-,-,hd,hy⟩:=trod_struct2 underlying24 h0;obtain⟨z,e,-,w⟩:=DataW.trod_int (cs:=[c0]) underlying5 hd;obtain⟨D,rfl,hD⟩:=u8_in w;cases e;refine(fun(h:∃(a:Option Addr) (len A:Nat) (B:Nat->Blk),c=.slice a len A/\len<=9223372036854775807/\Blks W a len A B)=>?_) ?_
  ·obtain⟨a,len,A,B,rfl,U,hB⟩:=h
   exact⟨D,a,len,A,B,rfl,hD,U,hB⟩
  rcases DataW.trod_slice (cs:=[c]) underlying22 hy with⟨hcs,-⟩|⟨a,len,A,E,rest,n',-,hcs,-,-,U,Y,ad,aa,-,-⟩
  ·have:c=.slice none 0 0:=(List.cons.inj (show[c]=[.slice none 0 0] from hcs)).1
   subst this;exact⟨none,0,0,fun _=>blk0,rfl,by omega,Nat.le_refl _,fun _=>rfl,(fun x h=>by cases h),fun i hi=>by omega⟩
  ·have:c=.slice (some a) len A:=(List.cons.inj (show[c]=[.slice (some a) len A] from hcs)).1
   subst this;simp only[Cell.okWide,Cell.ok,underlying22]at hc;obtain⟨-,-,-,L,row,cells,C,-⟩:=hc;obtain⟨b,off,sp⟩:=a;simp only at L;subst L;have hb:b<W.heap.size:=by
    unfold World.shape? at C
    cases X:W.heap[b]? with
    | none=>simp[X]at C
    | some o=>exact(Array.getElem?_eq_some_iff.1 X).1
   have G:∀i,i<len->∃q:Blk,q.ok/\∀j,j<7->W.cell? ⟨b,off+i*7+j,none⟩=(eM q)[j]? := fun i hi=>by
    have h1:=aa i hi;obtain⟨y,ab⟩:∃y,E[i]?=some y:=⟨_,List.getElem?_eq_getElem I⟩;rw[ab,show prog.cellsOf 106=7 by kernel_rfl,Option.bind_eq_some_iff]at h1;obtain⟨cl,F,ht⟩:=h1;unfold World.cells? at F;rw[if_pos (Nat.zero_le _)]at F;obtain⟨q,rfl,X⟩:=cellsBl ht;refine⟨q,X,fun j hj=>?_⟩;have g:=mapM_some_get F j j (by rw[List.getElem?_range hj]);rw[add_none,add_none]at g;rw[g];exact Array.getElem?_toList
   refine⟨some ⟨b,off,none⟩,len,A,fun i=>if h:i<len then(G i h).choose else blk0,rfl,Nat.le_trans U (Nat.le_trans Y (by unfold maxLen;omega)),U,(fun h=>by cases h),(fun x hx=>?_),fun i hi=>?_⟩
   ·cases hx
    refine⟨rfl,hb,fun i hi=>?_⟩;simp only[dif_pos hi];exact(G i hi).choose_spec.2
   ·simp only[dif_pos hi]
    exact(G i hi).choose_spec.1
end
end Go.Proofs.Υ
