/- Lemmas. -/
import Derived.Test.YtodehkjinmgflaaGreatDoorE51
import Derived.Test.YtodehkjinmgflaaGreatDoorRows
import Derived.Deep.Strs
import Derived.LaidMore
import Derived.Stop.Joined
set_option linter.all false
set_option maxHeartbeats 0
set_option maxRecDepth 99999
namespace Go.Proofs.Υ
open Go Go.RowKit Tryz
section
open Go.ChangeShapes Go.WideShapes Go.ChangeAt Go.WideElems
theorem own:ownKnob prog.godebug=none:=by kernel_rfl
theorem tZ:laidOutB prog=true:=by kernel_rfl
theorem add_none(b off k:Nat):(⟨b,off,none⟩:Addr).add k=⟨b,off+k,none⟩:=by
 unfold Addr.add
 split
 ·rename_i h
  have:k=0:=by simpa using h
  subst this
  rfl
 ·rfl
theorem i8_in{k:Int}(h:(Lit.int .i8 k).wf=true):-128<=k/\k<=127:=by
 simp only[Lit.wf,Bool.and_eq_true,decide_eq_true_eq]at h;have e:IntKind.i8.min=-128:=by decide
 have j:IntKind.i8.max=127:=by decide
 rw[e,j]at h;exact h
theorem u8_in{k:Int}(h:(Lit.int .u8 k).wf=true):∃n:Nat,k=n/\n<256:=by
 simp only[Lit.wf,Bool.and_eq_true,decide_eq_true_eq]at h;have e:IntKind.u8.min=0:=by decide
 have j:IntKind.u8.max=255:=by decide
 rw[e,j]at h;exact⟨k.toNat,by omega,by omega⟩
theorem uu{H:Type}{enc:TypeId×Value->H}{W:World}{u n:Nat}{t e:TypeId}{k:IntKind}{cl:List Value}{x:DataW H×List MemPlace}(G:prog.underlying t=some (.array n e))(C:prog.underlying e=some (.int k))(hc:prog.cellsOf e=1)(F:prog.cellsOf t=n)(h:DataW.trod enc prog W 0 (fun _=>true) true u t cl=some x):∃f:Nat->Int,cl=(List.range n).map (fun i=>Value.int k (f i))/\∀i,(i<n->(Lit.int k (f i)).wf=true)/\(n<=i->f i=0):=by
 obtain⟨xs,m,-,-,E,L,J⟩:=DataW.trod_array G h;rw[F]at E;have hi:∀i,i<n->∃z,cl[i]?=some (.int k z)/\(Lit.int k z).wf=true:=fun i hi=>by
  have c:=J i hi;rw[hc,Nat.mul_one]at c;obtain⟨y,Q⟩:∃y,xs[i]?=some y:=⟨_,List.getElem?_eq_getElem I⟩;rw[Q]at c;obtain⟨z,j,-,w⟩:=DataW.trod_int C c;refine⟨z,?_,w⟩;have h0:((cl.drop i).take 1)[0]?=some (.int k z):=by rw[j];rfl
  rwa [List.getElem?_take_of_lt I,List.getElem?_drop,Nat.add_zero]at h0
 refine⟨fun i=>match cl[i]? with|some (.int _ z)=>z|_=>0,List.ext_getElem? fun i=>?_,fun i=>⟨fun A=>?_,fun A=>?_⟩⟩
 ·by_cases A:i<n
  ·obtain⟨z,j,-⟩:=hi i A
   rw[List.getElem?_map,List.getElem?_range A,j];simp[j]
  ·rw[List.getElem?_eq_none I,List.getElem?_eq_none (by simp;omega)]
 ·obtain⟨z,j,w⟩:=hi i A
  simp only[j];exact w
 ·simp only[List.getElem?_eq_none (show cl.length<=i by omega)]
theorem small_of{f:Nat->Int}{n:Nat}(e:∀i,(i<n->(Lit.int .i8 (f i)).wf=true)/\(n<=i->f i=0)):eh f:=fun i=>by
 by_cases hi:i<n
 ·exact i8_in ((e i).1 hi)
 ·rw[(e i).2 I];omega
theorem cellsSm{H:Type}{enc:TypeId×Value->H}{W:World}{j:Nat}{cl:List Value}{x:DataW H×List MemPlace}(h:DataW.trod enc prog W 0 (fun _=>true) true j 29 cl=some x):
 ∃(N:Nat->Int) (D:Nat),cl=(np N D).toList/\eh N/\D<256:=by
 obtain⟨F,G,n,-,u,h0,C⟩:=trod_struct2 underlying29 h;rw[show prog.cellsOf 29=4 by kernel_rfl]at u
 match cl,u with
 | [c0,c1,c2,c3],_ =>
  obtain⟨f,e,E⟩:=uu (cl:=[c0,c1,c2]) underlying27 underlying25 Z Z h0;obtain⟨z,A,-,w⟩:=DataW.trod_int (cs:=[c3]) underlying5 C;obtain⟨D,rfl,hD⟩:=u8_in w;cases e;cases A;exact⟨f,D,rfl,small_of E,hD⟩
theorem cellsPl{H:Type}{enc:TypeId×Value->H}{W:World}{j:Nat}{cl:List Value}{x:DataW H×List MemPlace}(h:DataW.trod enc prog W 0 (fun _=>true) true j 31 cl=some x):
 ∃(T N:Nat->Int) (D:Nat),cl=(lK T N D).toList/\eh T/\eh N/\D<256:=by
 obtain⟨G,J,n,-,u,h0,C⟩:=trod_struct2 underlying31 h;rw[show prog.cellsOf 31=8 by kernel_rfl]at u
 match cl,u with
 | [c0,c1,c2,c3,c4,c5,c6,c7],_ =>
  obtain⟨f,e,F⟩:=uu (cl:=[c0,c1,c2,c3]) underlying26 underlying25 Z Z h0;obtain⟨N,D,A,E,hD⟩:=cellsSm (cl:=[c4,c5,c6,c7]) C;cases e;cases A;exact⟨f,N,D,rfl,small_of F,E,hD⟩
theorem small_arg{H:Type}{enc:TypeId×Value->H}{W:World}{base:Nat}{v:Value}{d:DataW H}{p:List MemPlace}(j:Value.okWide prog W .any base 29 v)(h0:DataW.Trod enc prog W 0 (fun _=>true) true 29 v d p):
 ∃(N:Nat->Int) (D:Nat),v=.agg (np N D)/\eh N/\D<256:=by
 unfold Value.okWide at j;rw[underlying29]at j;obtain⟨cs,rfl,-⟩:=j;obtain⟨u,h0⟩:=h0;obtain⟨N,D,e,A,hD⟩:=cellsSm h0;exact⟨N,D,by rw[show cs=np N D from Array.toList_inj.mp e],A,hD⟩
def pl2(T N T' N':Nat->Int)(D D':Nat):Array Value:=((lK T N D).toList++(lK T' N' D').toList).toArray
theorem place_arg{H:Type}{enc:TypeId×Value->H}{W:World}{base:Nat}{v:Value}{d:DataW H}{p:List MemPlace}(j:Value.okWide prog W .any base 31 v)(h0:DataW.Trod enc prog W 0 (fun _=>true) true 31 v d p):
 ∃(T N:Nat->Int) (D:Nat),v=.agg (lK T N D)/\eh T/\eh N/\D<256:=by
 unfold Value.okWide at j;rw[underlying31]at j;obtain⟨cs,rfl,-⟩:=j;obtain⟨u,h0⟩:=h0;obtain⟨T,N,D,e,h⟩:=cellsPl h0;exact⟨T,N,D,by rw[show cs=lK T N D from Array.toList_inj.mp e],h⟩
theorem cellsBl{H:Type}{enc:TypeId×Value->H}{W:World}{A:Nat}{cl:List Value}{x:DataW H×List MemPlace}(h:DataW.trod enc prog W 0 (fun _=>true) true A 106 cl=some x):
 ∃b:Blk,cl=(eN b).toList/\b.ok:=by
 obtain⟨U,X,Y,n,-,E,h0,J,L⟩:=Deep.trod_struct3 underlying106 h;rw[show prog.cellsOf 106=7 by kernel_rfl]at E
 match cl,E with
 | [c0,c1,c2,c3,c4,c5,c6],_ =>
  obtain⟨z,e,-,w⟩:=DataW.trod_int (cs:=[c0]) underlying5 h0;obtain⟨f,F,u⟩:=uu (cl:=[c1,c2,c3]) underlying104 underlying5 Z Z J;obtain⟨g,G,C⟩:=uu (cl:=[c4,c5,c6]) underlying104 underlying5 Z Z L;obtain⟨k,rfl,Q⟩:=u8_in w;have j:∀{f:Nat->Int},(∀i,(i<3->(Lit.int .u8 (f i)).wf=true)/\(3<=i->f i=0))->∀i,((f i).toNat:Int)=f i/\(f i).toNat<256:=fun u i=>by
   by_cases hi:i<3
   ·obtain⟨m,e,R⟩:=u8_in ((u i).1 hi)
    rw[e];exact⟨rfl,R⟩
   ·rw[(u i).2 I];exact⟨rfl,by decide⟩
  cases e;cases F;cases G;refine⟨⟨k,fun i=>(f i).toNat,fun i=>(g i).toNat⟩,?_,Q,fun i=>⟨(j u i).2,(j C i).2⟩⟩;show[Value.int .u8 (k:Int),.int .u8 (f 0),.int .u8 (f 1),.int .u8 (f 2),.int .u8 (g 0),.int .u8 (g 1),.int .u8 (g 2)]=[.int .u8 (k:Int),.int .u8 ((f 0).toNat:Int),.int .u8 ((f 1).toNat:Int),.int .u8 ((f 2).toNat:Int),.int .u8 ((g 0).toNat:Int),.int .u8 ((g 1).toNat:Int),.int .u8 ((g 2).toNat:Int)];rw[(j u 0).1,(j u 1).1,(j u 2).1,(j C 0).1,(j C 1).1,(j C 2).1]
theorem body_arg{H:Type}{enc:TypeId×Value->H}{W:World}{base:Nat}{v:Value}{d:DataW H}{p:List MemPlace}(hv:Value.okWide prog W .any base 24 v)(h0:DataW.Trod enc prog W 0 (fun _=>true) true 24 v d p):
 ∃(D:Nat) (a:Option Addr) (len A:Nat) (B:Nat->Blk),v=.agg #[.int .u8 (D:Nat),.slice a len A]/\D<256/\len<=9223372036854775807/\Blks W a len A B:=by
 unfold Value.okWide at hv;rw[underlying24]at hv;obtain⟨cs,rfl,Q,ts,R,-,J⟩:=hv;rw[show prog.cellsOf 24=2 by kernel_rfl]at Q;obtain⟨l⟩:=cs
 match l,Q with
 | [c0,c],_ =>
  rw[show prog.cellTypes prog.depth 24=some [5,22] by kernel_rfl]at R;cases R;obtain⟨u,hu,hc⟩:=J 1 c rfl;cases hu;obtain⟨ac,h0⟩:=h0;obtain⟨y0,y1,n,-,-,hd,hy⟩:=trod_struct2 underlying24 h0;obtain⟨z,e,-,w⟩:=DataW.trod_int (cs:=[c0]) underlying5 hd;obtain⟨D,rfl,hD⟩:=u8_in w;cases e;refine(fun(h:∃(a:Option Addr) (len A:Nat) (B:Nat->Blk),c=.slice a len A/\len<=9223372036854775807/\Blks W a len A B)=>?_) ?_
  ·obtain⟨a,len,A,B,rfl,U,hB⟩:=h
   exact⟨D,a,len,A,B,rfl,hD,U,hB⟩
  rcases DataW.trod_slice (cs:=[c]) underlying22 hy with⟨hcs,-⟩|⟨a,len,A,E,rest,n',-,hcs,-,-,U,Y,ad,aa,-,-⟩
  ·have:c=.slice none 0 0:=(List.cons.inj (show[c]=[.slice none 0 0] from hcs)).1
   subst this;exact⟨none,0,0,fun _=>blk0,rfl,by omega,Nat.le_refl _,fun _=>rfl,(fun x h=>by cases h),fun i hi=>by omega⟩
  ·have:c=.slice (some a) len A:=(List.cons.inj (show[c]=[.slice (some a) len A] from hcs)).1
   subst this;simp only[Cell.okWide,Cell.ok,underlying22]at hc;obtain⟨-,-,-,L,row,cells,C,-⟩:=hc;obtain⟨b,off,sp⟩:=a;simp only at L;subst L;have hb:b<W.heap.size:=by
    unfold World.shape? at C
    cases X:W.heap[b]? with
    | none=>simp[X]at C
    | some o=>exact(Array.getElem?_eq_some_iff.1 X).1
   have G:∀i,i<len->∃q:Blk,q.ok/\∀j,j<7->W.cell? ⟨b,off+i*7+j,none⟩=(eN q)[j]? := fun i hi=>by
    have h1:=aa i hi;obtain⟨y,ab⟩:∃y,E[i]?=some y:=⟨_,List.getElem?_eq_getElem I⟩;rw[ab,show prog.cellsOf 106=7 by kernel_rfl,Option.bind_eq_some_iff]at h1;obtain⟨cl,F,ht⟩:=h1;unfold World.cells? at F;rw[if_pos (Nat.zero_le _)]at F;obtain⟨q,rfl,X⟩:=cellsBl ht;refine⟨q,X,fun j hj=>?_⟩;have g:=mapM_some_get F j j (by rw[List.getElem?_range hj]);rw[add_none,add_none]at g;rw[g];exact Array.getElem?_toList
   refine⟨some ⟨b,off,none⟩,len,A,fun i=>if h:i<len then(G i h).choose else blk0,rfl,Nat.le_trans U (Nat.le_trans Y (by unfold maxLen;omega)),U,(fun h=>by cases h),(fun x hx=>?_),fun i hi=>?_⟩
   ·cases hx
    refine⟨rfl,hb,fun i hi=>?_⟩;simp only[dif_pos hi];exact(G i hi).choose_spec.2
   ·simp only[dif_pos hi]
    exact(G i hi).choose_spec.1
end
section
theorem o6{Sh:Array Value->Prop}{n j:Nat}{t:TypeId}{y:Nat->Value}{w:World}(A:(isP j (cO Sh n t)).rel ((isP j (cO Sh n t)).deps.map y) w):y j≠.pointer (some ⟨w.heap.size,0,none⟩):=by
 obtain⟨g,_,e,-,-,u⟩:=isP.get A;rw[e];intro h;cases h;exact absurd u.lt (Nat.lt_irrefl _)
structure LXI (n g11 g12 gl gh:Nat) (lo hi:Nat→Rat) (w0 wr:World):Prop where
 a:∃ r,Box wr g11 (aq r) 55
 z:∃ r,Box wr g12 (aq r) 55
 x:dT wr gl 3 lo 57
 y:dT wr gh 3 hi 57
 bel:Below n w0 wr
 sz:n<=wr.heap.size
 ne:n<=g11/\n<=g12/\g11≠g12/\gl≠g11/\gl≠g12/\gh≠g11/\gh≠g12
section
variable {n g11 g12 gl gh : Nat} {lo hi : Nat → Rat} {w0 wr w' : World}
theorem LXI.below(h:LXI n g11 g12 gl gh lo hi w0 wr)(hb:Bl wr w'):LXI n g11 g12 gl gh lo hi w0 w':=by
 obtain⟨⟨r,e⟩,⟨s,j⟩,A,C,E,u,F⟩:=h;exact⟨⟨r,e.to hb⟩,⟨s,j.to hb⟩,A.below hb,C.below hb,E.trans (hb.mono u),Nat.le_trans u hb.size,F⟩
theorem LXI.sa(h:LXI n g11 g12 gl gh lo hi w0 wr)(r:RC):LXI n g11 g12 gl gh lo hi w0 (put4 wr g11 0 r):=by
 obtain⟨⟨U,u⟩,⟨s,G⟩,H,J,L,Q,E,R,F,e,A,j,C⟩:=h;exact⟨⟨r,u.s4 r⟩,⟨s,G.oput4 F.symm _ _⟩,H.other u.at1 e r,J.other u.at1 j r,aN L E _ _,by unfold put4;simpa using Q,E,R,F,e,A,j,C⟩
theorem LXI.axs(h:LXI n g11 g12 gl gh lo hi w0 wr){g:Nat}{cs:Array Value}(hb:Box wr g cs 77)(L:g11<g/\g12<g/\gl<g/\gh<g)(i:Nat)(v:Value):LXI n g11 g12 gl gh lo hi w0 (wr.setCell ⟨g,i,none⟩ v):=by
 obtain⟨⟨J,e⟩,⟨s,j⟩,u,A,C,E,F,G,H⟩:=h;exact⟨⟨J,e.other (p:=⟨g,i,none⟩) (show g11≠g by omega) v⟩,⟨s,j.other (p:=⟨g,i,none⟩) (show g12≠g by omega) v⟩,u.setc hb ν I i v,A.setc hb ν I i v,C.setCell (p:=⟨g,i,none⟩) (show n<=g by omega) v,by simpa using E,F,G,H⟩
theorem LXI.sz_(h:LXI n g11 g12 gl gh lo hi w0 wr)(r:RC):LXI n g11 g12 gl gh lo hi w0 (put4 wr g12 0 r):=by
 obtain⟨⟨U,G⟩,⟨s,C⟩,H,J,L,Q,R,E,F,u,e,A,j⟩:=h;exact⟨⟨U,G.oput4 F _ _⟩,⟨r,C.s4 r⟩,H.other C.at1 e r,J.other C.at1 j r,aN L E _ _,by unfold put4;simpa using Q,R,E,F,u,e,A,j⟩
end
structure LXJ (n g11 g12 gl gh:Nat) (lo hi:Nat→Rat) (w0:World) (k g:Nat) (wr:World):Prop where
 i:LXI n g11 g12 gl gh lo hi w0 wr
 ax:Box wr g #[.int .i64 (axU k).x,.int .i64 (axU k).y,.int .i64 (axU k).z] 77
 g1:g11<g
 g2:g12<g
theorem LXJ.below{n g11 g12 gl gh:Nat}{lo hi:Nat->Rat}{w0 wr w':World}{k g:Nat}(h:LXJ n g11 g12 gl gh lo hi w0 k g wr)(hb:Bl wr w'):LXJ n g11 g12 gl gh lo hi w0 k g w':=⟨h.i.below hb,h.ax.to hb,h.g1,h.g2⟩
theorem LXJ.sa{n g11 g12 gl gh:Nat}{lo hi:Nat->Rat}{w0 wr:World}{k g:Nat}(h:LXJ n g11 g12 gl gh lo hi w0 k g wr)(r:RC):LXJ n g11 g12 gl gh lo hi w0 k g (put4 wr g11 0 r):=⟨h.i.sa r,h.ax.oput4 (ψ h.g1) _ _,h.g1,h.g2⟩
end
theorem infoPla:(prog.info? 31).map (·.size)=some 8:=by kernel_rfl
theorem nh(c6:∀v,Tab v->gZ v->Calls prog 7 #[] v fun e w'=>e=.returned (.bool true)/\Bl v w')(D:Nat)(a:Option Addr)(len aw:Nat)(B:Nat->Blk)(T N N2:Nat->Int)(E E2:Nat)(w:World)(hT:Tab w)(hV:gZ w)(hD:D<256)(av:len<=9223372036854775807)(hB:Blks w a len aw B)(G:eh T/\eh N/\E<256)(h3:eh N2/\E2<256):
 Calls prog 4 #[.agg #[.int .u8 (D:Nat),.slice a len aw],.agg (lK T N E),.agg (np N2 E2)] w fun e w'=>e=.returned (.bool true)/\Bl w w':=by
 obtain⟨W,hW,b1,b2,b3,a0,hS⟩:=bX w #[.int .u8 (D:Nat),.slice a len aw] (lK T N E) (np N2 E2) 24 31 29;obtain⟨cl,dx,B1,B2,B3,HT,HV,an,HD⟩:=η9 c6 a0 b1 b2 b3 (hT.below a0 hT.1) (hV.below a0) (hB.below a0 ρ) hD;obtain⟨dB,H1,H3⟩:=η3 av G h3;clear c6 hT hV hD av hB G h3 b1 b2 b3 a0 hS
 go_enter func4,ntmps4
 go_wp2_with fail
 refine(cl.o _ HT.o HV.o).mono ?_;rintro e w1 ⟨rfl,Y⟩;obtain⟨K1,C1,C2,C3,cr,cu,ce,HQ,cn⟩:=η9 Y (B1.o.to Y) (B2.o.to Y) (B3.o.to Y) (HT.o.below Y HT.o.1) (HV.o.below Y) (an.o.below Y ρ) (turnT_prim T) (partL_ok len B);obtain⟨X,cF⟩:∃n:Nat,1+D % 9=n:=⟨_,rfl⟩;have ch:=O (show 1<=X/\X<=9 by omega);have d4:=O (fun(w':World) (h:Bl w1 w')=>(show Calls prog 9 #[.agg #[.int .u8 (D:Nat),.slice a len aw]] w' fun e F=>(∃v az,e=.returned (.agg #[.string ⟨#[112,97,114,116]⟩,.int .i64 (X:Nat),v])/\CelR F w'.heap.size v az ((eM len B).map Blk.pts))/\Bl w' F from by rw[<-cF];exact part_any a len aw D B w' (ce.o.below h ρ) HD.o dB.o));clear Y hW cl HT HV an B1 B2 B3 cF
 go_upto_region 3 with fail
 refine dD Sh2 9 36 (rest:=1) [isV 0 (.agg #[.int .u8 (D:Nat),.slice a len aw]),isP 1 (oY w1.heap.size ⟨#[112,97,114,116]⟩ (X:Nat) ((eM len B).map Blk.pts)),isV 2 (.agg (lK T N E)),isV 3 (.agg (plc (bR (dF T)) (dt N E))),isP 4 (js (X:Nat) w1.heap.size (cY (bR (dF T)) (dt N E)) (eM len B)),isP 5 (js (X:Nat) w1.heap.size (cY (bR (dF T)) (dt N E)) (eM len B)),isP 6 (mY (X:Nat) w1.heap.size (cY (bR (dF T)) (dt N E)) (eM len B)),isV 7 (.int .i64 0),isP 8 (cO Sh2 w1.heap.size 36),isS 8 w1.heap.size 36 (uC (X:Nat) w1.heap.size (cY (bR (dF T)) (dt N E)) (eM len B))] [8] ?A1 (τ 10 1) Z [0,1,2,3,4,5,6,7,8,9] Z Z Z Z Z Z ?st ?st2 ?hA ?hop ?hend
 case hA=>exact cG
 case st=>repeat (first|exact ak.nil|refine ak.cons isV.stab ?_|refine ak.cons (isP.stab cO.stab) ?_|refine ak.cons (isP.stab js.stab) ?_|refine ak.cons (isP.stab mY.stab) ?_|refine ak.cons (isP.stab oY.stab) ?_|refine ak.cons (isS.stab uC.stab) ?_)
 case st2=>repeat (first|exact aH.nil|refine aH.cons isV.stabW ?_|refine aH.cons (isN.stabW (i:=0)) ?_|refine aH.cons (isP.stabW cO.stabW) ?_|refine aH.cons (isP.stabW (js.stabW nL)) ?_|refine aH.cons (isP.stabW (mY.stabW nL)) ?_|refine aH.cons (isP.stabW (oY.stabW ν ν)) ?_)
 case hop =>
  refine ai.cons rfl (fun y w' hS hD K hK=>?_) ?_
  ·obtain⟨c0,c1,-⟩:=(C1.o.to hS).two
   go_simp;exact hK.out _ w' hS (aI.old β) isV.put δ
  refine ai.cons rfl (fun y w' hS hD K hK=>?_) ?_
  ·simp only[isV.get (hD 0 Z)]at hK⊢
   go_simp;refine(d4.o w' hS).mono ?_
   rintro e F ⟨⟨v,az,rfl,hc⟩,hb⟩;obtain⟨pa,pn,pc,rfl⟩:=fA hc.own;exact hK.out _ F (ae hS hb ρ) (aI.old hb) (isP.put ⟨pa,pn,pc,az,rfl,hc.down hS.size⟩) δ
  refine ai.cons rfl (fun y w' hS hD K hK=>?_) ?_
  ·refine bn ?_
   refine aQ 31 _ rfl (w.heap.size+1) 0 rfl (lK T N E) _ (fun j hj=>(C2.o.to hS).whole j hj) underlying31 rfl infoPla ?_;exact hK.out _ w' hS (aI.old β) isV.put δ
  refine ai.cons rfl (fun y w' hS hD K hK=>?_) ?_
  ·simp only[isV.get (hD 2 Z)]at hK⊢
   go_simp;refine(lw T N E w' H1.o.1 H1.o.2.1 H1.o.2.2).mono ?_
   rintro e F ⟨rfl,hb⟩;exact hK.out _ F (ae hS hb ρ) (aI.old hb) isV.put δ
  refine ai.cons rfl (fun y w' hS hD K hK=>?_) ?_
  ·obtain⟨pa,pn,pc,az,Q,hc⟩:=isP.get (p:=oY w1.heap.size ⟨#[112,97,114,116]⟩ (X:Nat) ((eM len B).map Blk.pts)) (hD 1 Z)
   simp only[Q]at hK⊢;simp only[isV.get (hD 3 Z)]at hK⊢;go_simp;refine(sof_any _ X _ az (eM len B) _ _ (1+E % 6) 128 w1.heap.size w' ⟨by have:=ch.o;omega,by have:=ch.o;omega⟩ cn.o hc (cr.o.below hS cr.o.1) (cu.o.below hS) HQ.o (ot H1.o.2.1 E) ⟨by omega,by omega⟩ (ke H1.o.2.1 E) I).mono ?_;rintro e F ⟨⟨v,vs,ds,rfl,hl,C⟩,hb⟩;exact hK.out _ F (ae hS hb ρ) (aI.old hb) (isP.put ⟨_,rfl,vs,ds,hl.down hS.size,C⟩) δ
  refine ai.cons rfl (fun y w' hS hD K hK=>?_) ?_
  ·obtain⟨v,Q,C⟩:=isP.get (p:=js (X:Nat) w1.heap.size (cY (bR (dF T)) (dt N E)) (eM len B)) (hD 4 Z)
   simp only[Q]at hK⊢;go_simp;exact hK.out _ w' hS (aI.old β) (isP.put ⟨v,rfl,C⟩) δ
  refine ai.cons rfl (fun y w' hS hD K hK=>?_) ?_
  ·obtain⟨v,Q,C⟩:=isP.get (p:=js (X:Nat) w1.heap.size (cY (bR (dF T)) (dt N E)) (eM len B)) (hD 5 Z)
   simp only[Q]at hK⊢;go_simp;exact hK.out _ w' hS (aI.old β) (isP.put ⟨v,rfl,C⟩) δ
  refine ai.cons rfl (fun y w' hS hD K hK=>?_) ?_
  ·obtain⟨v,Q,C⟩:=isP.get (p:=js (X:Nat) w1.heap.size (cY (bR (dF T)) (dt N E)) (eM len B)) (hD 5 Z)
   simp only[Q]at hK⊢;go_simp;exact hK.out _ w' hS (aI.old β) isV.put δ
  refine ai.cons rfl (fun y w' hS hD K hK=>?_) ?_
  ·go_simp
   exact hK.out _ _ (hS.alloc hS.size _) (aI.old (β.alloc ρ _)) (isP.put ⟨_,_,rfl,hS.size,⟨_,_,rfl⟩,Box.new _ _ _ _ rfl⟩) (fun _ j hj H _=>absurd (List.mem_singleton.1 hj) H)
  refine ai.cons rfl (fun y w' hS hD K hK=>?_) ?_
  ·obtain⟨v,Q,C⟩:=isP.get (p:=mY (X:Nat) w1.heap.size (cY (bR (dF T)) (dt N E)) (eM len B)) (hD 6 Z)
   obtain⟨ga,_,ea,U,⟨_,_,rfl⟩,J⟩:=isP.get (i:=8) (p:=cO Sh2 w1.heap.size 36) (hD 8 Z);simp only[Q,ea]at hK⊢;obtain⟨a,n,k,rfl⟩:=C.sl;refine bn ?_;refine wp_store_row 36 _ _ rfl ga #[.int .i64 (X:Nat),.slice a n k] rfl rfl 36 _ J ph rfl (by simp[Value.oneCell']) ?_;exact hK.out undef _ (hS.grown (bw w' ga _) hS.size (fun g e=>by cases e;exact U)) (aI.new (Wr.row U J ⟨_,_,rfl⟩)) (isS.put ν ea U (cS J _) ⟨_,rfl,C.wr nL (Wr.row (Sh:=Sh2) U J ⟨_,_,rfl⟩)⟩) δ
  exact ai.nil
 case hend =>
  intro y w' hS hR hF;have e7:=isV.get (i:=7) (c:=.int .i64 0) (hR 7 Z);simp only[e7];obtain⟨gs,_,cD,eu,cy,vs,rfl,c9⟩:=isS.get (i:=8) (n:=w1.heap.size) (t:=36) (p:=uC (X:Nat) w1.heap.size (cY (bR (dF T)) (dt N E)) (eM len B)) (hR 9 Z);simp only[cD];refine aK (i:=10) (listed2:=τ 11 0) Z rfl Z (fun K hK=>?_);go_simp;refine hK.out _ _ ?_;clear hK K;refine aM Z ?_;obtain⟨e4,a7,bl,rfl⟩:=c9.sl;obtain⟨vs,ds,ay,a5⟩:=c9;obtain⟨d5,SB,D3,d6⟩:=η4 hS cy (C3.o.to hS) (cu.o.below hS);obtain⟨m1,bI⟩:∃m,cY (bR (dF T)) (dt N E)=m:=ξ;obtain⟨pt,bV⟩:∃p,dt N2 E2=p:=ξ;have av:=a5.len;have ez:=cn.o.len;have HN:=O (show 0<(ds.map (ShD.move m1)).length/\(ds.map (ShD.move m1)).length<=1000 by rw[List.length_map];omega);have bc:=O (show ∀d∈ds.map (ShD.move m1),ShF d (sqn (bR (dF T))*(1+E % 6)) 200000 231928233984 from fun d hd=>by
   obtain⟨d0,h0,rfl⟩:=List.mem_map.1 hd;obtain⟨b,hb⟩:=a5.mem h0;rw[<-bI];exact fst_shf hb HQ.o H1.o.2.1)
  have bv:=O (show BdV 2 pt by rw[<-bV];exact shift_bd H3.o.1 E2);have ba:=O (show sqn (bR (dF T))*(1+E % 6)<=16777216 by have:=den_le HQ.o E;omega);obtain⟨w5,rfl⟩:=φ w';have cq:=O (fun(w':World) (h:Bl w5 w')=>(show Calls prog 13 #[.agg (np N2 E2)] w' fun e F=>fI F e pt/\Bl w' F from by rw[<-bV];exact small_any N2 E2 w' (d6.o.below h) H3.o.1 H3.o.2));rw[bI]at ay;generalize ds.map (ShD.move m1)=dm at *;obtain⟨sb,e9,s0,ev,-,-⟩:=ay.at_ 0 (dm[0]'HN.o.1) (List.getElem?_eq_getElem _);obtain⟨NN,bz⟩:∃n,dm.length=n:=ξ;have ey:0<NN:=by have:=HN.o;omega
  obtain⟨sl,eD⟩:∃sl:Array Value,sl=#[.int .i64 (X:Nat),.slice e4 a7 bl]:=⟨_,rfl⟩;obtain⟨dA,cp,dy,de⟩:=η4 (fun(w':World) (h:Bl w5 w') vn (q:Q3) (hn:aA w' vn q) (hb:BdV 2 q)=>sext_any (X:Nat) _ vn vs dm q _ _ _ 2 w1.heap.size w' (ay.below h) HN.o bc.o ba.o I hn hb I) (fun(w':World) (h:Bl w5 w') vn (q:Q3) (hn:aA w' vn q) (hb:BdV 2 q)=>rext_any (X:Nat) _ vn vs dm q _ _ _ 2 w1.heap.size w' (ay.below h) HN.o bc.o ba.o I hn hb I) (fun(w':World) (h:Bl w5 w')=>sbox_any (X:Nat) _ vs dm _ _ _ w1.heap.size w' (ay.below h) HN.o bc.o ba.o I) (ae dx.o (ae K1.o d5.o ρ) ρ);obtain⟨c0,c1,-⟩:=SB.o.two;rw[bz]at ev;injection ev with ea en ec
  subst ea;subst en;subst ec;have e3:((a7:Int) == 0)=false:=beq_eq_false_iff_ne.mpr I;clear hS hR hF e7 cD cy ay a5 eu av ez bV bI eD;obtain⟨fb,cg⟩:=η2 bz (fun(q:Q3) (hb:BdV 2 q)=>pU (f:=dJ dm q) (N:=dm.length) (K:=1000) (ext_bd bc.o ba.o I (hb.mono I)) I dm.length ρ);obtain⟨lo,c7⟩:∃x,(gI (dJ dm pt) dm.length).1=x:=ξ;obtain⟨hi,c4⟩:∃x,(gI (dJ dm pt) dm.length).2=x:=ξ;obtain⟨bu,bt⟩:=η2 c7 c4;clear c7 c4 ey bz
  go_upto_region 6 with fail
  clear c0 c1 e3;have bg:=SB;have V5:=D3;refine dD Sh4 9 55 (rest:=1) [isV 0 (.agg #[.int .i64 (X:Nat),.slice (some ⟨sb,0,none⟩) a7 bl]),isV 1 (.agg (np N2 E2)),isP 2 (fun u w=>aA w u pt),isP 3 (ExT lo hi),isP 4 (ExT lo hi),isP 5 (RaT lo),isP 6 (RaT hi),isP 7 (cO Sh4 w5.heap.size 55),isP 8 (cO Sh4 w5.heap.size 55),isS 7 w5.heap.size 55 (fun cs w=>∃r,cs=aq r/\aj w r.agg lo)] [7,8] ?A2 (τ 10 1) Z [0,1,2,3,4,5,6,7,8,9] Z Z Z Z Z Z ?st ?st2 ?hA ?hop ?hend
  case hA=>exact cG
  case st=>repeat (first|exact ak.nil|refine ak.cons isV.stab ?_|refine ak.cons (isP.stab ExT.stab) ?_|refine ak.cons (isP.stab RaT.stab) ?_|refine ak.cons (isP.stab cO.stab) ?_|refine ak.cons (isP.stab (fun _ _ _ h hv=>hv.below h)) ?_|refine ak.cons (isS.stab (fun _ _ _ h ⟨r,e,C⟩=>⟨r,e,C.below h⟩)) ?_)
  case st2=>repeat (first|exact aH.nil|refine aH.cons isV.stabW ?_|refine aH.cons (isP.stabW (ExT.stabW ν)) ?_|refine aH.cons (isP.stabW (RaT.stabW ν)) ?_|refine aH.cons (isP.stabW cO.stabW) ?_|refine aH.cons (isP.stabW (iM ν)) ?_|refine aH.cons (isN.stabW (i:=0)) ?_)
  case hop =>
   refine ai.cons rfl (fun y w' hS hD K hK=>?_) ?_
   ·obtain⟨c0,c1,-⟩:=(bg.o.to hS).two
    go_simp;exact hK.out _ w' hS (aI.old β) isV.put δ
   refine ai.cons rfl (fun y w' hS hD K hK=>?_) ?_
   ·refine bn ?_
    refine aQ 29 _ rfl (w.heap.size+2) 0 rfl (np N2 E2) _ (fun j hj=>(V5.o.to hS).whole j hj) underlying29 rfl infoSm ?_;exact hK.out _ w' hS (aI.old β) isV.put δ
   refine ai.cons rfl (fun y w' hS hD K hK=>?_) ?_
   ·simp only[isV.get (hD 1 Z)]at hK⊢
    go_simp;refine(cq.o w' (hS)).mono ?_
    rintro e F ⟨⟨v,rfl,hv⟩,hb⟩;exact hK.out v F (ae hS hb ρ) (aI.old hb) (isP.put hv) δ
   refine ai.cons rfl (fun y w' hS hD K hK=>?_) ?_
   ·have e2:=isP.get (p:=fun u w=>aA w u pt) (hD 2 Z)
    simp only[isV.get (hD 0 Z)]at hK⊢;go_simp;refine(dA.o w' (hS) _ pt e2 bv.o).mono ?_;rintro e F ⟨⟨lr,C,rfl,G,L⟩,hb⟩;exact hK.out _ F (ae hS hb ρ) (aI.old hb) (isP.put ⟨lr,C,rfl,by rw[bu.o]at G;exact G,by rw[bt.o]at L;exact L⟩) δ
   refine ai.cons rfl (fun y w' hS hD K hK=>?_) ?_
   ·obtain⟨lr,C,Q,G,L⟩:=isP.get (p:=ExT lo hi) (hD 3 Z)
    simp only[Q]at hK⊢;go_simp;exact hK.out _ w' hS (aI.old β) (isP.put ⟨lr,C,rfl,G,L⟩) δ
   refine ai.cons rfl (fun y w' hS hD K hK=>?_) ?_
   ·obtain⟨lr,C,Q,G,L⟩:=isP.get (p:=ExT lo hi) (hD 4 Z)
    simp only[Q]at hK⊢;go_simp;exact hK.out _ w' hS (aI.old β) (isP.put ⟨lr,rfl,G⟩) δ
   refine ai.cons rfl (fun y w' hS hD K hK=>?_) ?_
   ·obtain⟨lr,C,Q,G,L⟩:=isP.get (p:=ExT lo hi) (hD 4 Z)
    simp only[Q]at hK⊢;go_simp;exact hK.out _ w' hS (aI.old β) (isP.put ⟨C,rfl,L⟩) δ
   refine ai.cons rfl (fun y w' hS hD K hK=>?_) ?_
   ·go_simp
    exact hK.out _ _ (hS.alloc hS.size _) (aI.old (β.alloc ρ _)) (isP.put ⟨_,_,rfl,hS.size,sh4 RC.zero,Box.new _ _ _ _ rfl⟩) (fun _ j hj H C=>by rcases(show j=7\/j=8 by simpa using hj)with rfl|rfl<;>first|exact absurd rfl H|exact o6 C)
   refine ai.cons rfl (fun y w' hS hD K hK=>?_) ?_
   ·go_simp
    exact hK.out _ _ (hS.alloc hS.size _) (aI.old (β.alloc ρ _)) (isP.put ⟨_,_,rfl,hS.size,sh4 RC.zero,Box.new _ _ _ _ rfl⟩) (fun _ j hj H C=>by rcases(show j=7\/j=8 by simpa using hj)with rfl|rfl<;>first|exact absurd rfl H|exact o6 C)
   refine ai.cons rfl (fun y w' hS hD K hK=>?_) ?_
   ·obtain⟨r,er,C⟩:=isP.get (i:=5) (p:=RaT lo) (hD 5 Z)
    obtain⟨ga,_,ea,U,⟨s0,rfl⟩,J⟩:=isP.get (i:=7) (p:=cO Sh4 w5.heap.size 55) (hD 7 Z);simp only[er,ea]at hK⊢;refine bn ?_;refine wp_store_row 55 _ _ rfl ga (aq r) rfl rfl 55 _ J aY rfl (dn r) ?_;rw[<-jh J r];exact hK.out undef (put4 w' ga 0 r) (aN hS U _ _) (aI.new (Wr.put4 U J _)) (isS.put ν ea U (J.s4 _) ⟨r,rfl,C.put4 J.at1 r⟩) δ
   exact ai.nil
  case hend =>
   intro y w' hS hR hF;obtain⟨ga,_,e7,a1,b7,fo,rfl,h5⟩:=isS.get (i:=7) (n:=w5.heap.size) (t:=55) (p:=fun cs w=>∃r,cs=aq r/\aj w r.agg lo) (hR 9 Z);obtain⟨ar,e6,h6⟩:=isP.get (i:=6) (p:=RaT hi) (hR 6 Z);obtain⟨ja,_,e8,ap,⟨s8,rfl⟩,b8⟩:=isP.get (i:=8) (p:=cO Sh4 w5.heap.size 55) (hR 8 Z);have H:ga≠ja:=fun h=>hF 7 (by simp) 8 (by simp) Z Z ν (by rw[e7,e8,h])
   unfold aq at e6;simp only[e6,e7,e8];obtain⟨⟨z0,z1,z2,z3⟩,z4,z5,z6,z7⟩:=b8.at1;refine aK (i:=10) (listed2:=τ 11 0) Z rfl Z (fun K hK=>?_);go_simp;refine hK.out _ _ ?_;clear hK K;refine aM Z ?_;change Exit.then _ _ _ _ (put4 w' ja 0 ar);obtain⟨b5,b6,eg,du,Na,ad⟩:=η6 (b7.oput4 H 0 ar) (b8.s4 ar) (h5.put4 b8.at1 ar) (h6.put4 b8.at1 ar) (And.intro H (And.intro a1 ap)) (aN hS ap 0 ar);obtain⟨af,V6⟩:=η2 (bg.o.to ad.o) (V5.o.to ad.o);clear z0 z1 z2 z3 z4 z5 z6 z7 b7 b8 h5 h6 hS hR hF e6 e7 e8 H a1 ap;generalize put4 w' ja 0 ar=w6 at *
   go_upto_region 7 with fail
   refine dD Sh4 9 55 (rest:=1) [isV 0 (.agg #[.int .i64 (X:Nat),.slice (some ⟨sb,0,none⟩) a7 bl]),isV 1 (.agg (np N2 E2)),isP 2 (fun u w=>aA w u pt),isP 3 (ExT lo hi),isP 4 (ExT lo hi),isP 5 (RaT lo),isP 6 (RaT hi),isP 7 (cO Sh4 w6.heap.size 55),isP 8 (cO Sh4 w6.heap.size 55),isS 7 w6.heap.size 55 (fun cs w=>∃r,cs=aq r/\aj w r.agg lo)] [7,8] ?A3 (τ 10 1) Z [0,1,2,3,4,5,6,7,8,9] Z Z Z Z Z Z ?st ?st2 ?hA ?hop ?hend
   case hA=>exact cG
   case st=>repeat (first|exact ak.nil|refine ak.cons isV.stab ?_|refine ak.cons (isP.stab ExT.stab) ?_|refine ak.cons (isP.stab RaT.stab) ?_|refine ak.cons (isP.stab cO.stab) ?_|refine ak.cons (isP.stab (fun _ _ _ h hv=>hv.below h)) ?_|refine ak.cons (isS.stab (fun _ _ _ h ⟨r,e,C⟩=>⟨r,e,C.below h⟩)) ?_)
   case st2=>repeat (first|exact aH.nil|refine aH.cons isV.stabW ?_|refine aH.cons (isP.stabW (ExT.stabW ν)) ?_|refine aH.cons (isP.stabW (RaT.stabW ν)) ?_|refine aH.cons (isP.stabW cO.stabW) ?_|refine aH.cons (isP.stabW (iM ν)) ?_|refine aH.cons (isN.stabW (i:=0)) ?_)
   case hop =>
    refine ai.cons rfl (fun y w' hS hD K hK=>?_) ?_
    ·obtain⟨c0,c1,-⟩:=(af.o.to hS).two
     go_simp;exact hK.out _ w' hS (aI.old β) isV.put δ
    refine ai.cons rfl (fun y w' hS hD K hK=>?_) ?_
    ·refine bn ?_
     refine aQ 29 _ rfl (w.heap.size+2) 0 rfl (np N2 E2) _ (fun j hj=>(V6.o.to hS).whole j hj) underlying29 rfl infoSm ?_;exact hK.out _ w' hS (aI.old β) isV.put δ
    refine ai.cons rfl (fun y w' hS hD K hK=>?_) ?_
    ·simp only[isV.get (hD 1 Z)]at hK⊢
     go_simp;refine(cq.o w' (ae ad.o hS ρ)).mono ?_
     rintro e F ⟨⟨v,rfl,hv⟩,hb⟩;exact hK.out v F (ae hS hb ρ) (aI.old hb) (isP.put hv) δ
    refine ai.cons rfl (fun y w' hS hD K hK=>?_) ?_
    ·have e2:=isP.get (p:=fun u w=>aA w u pt) (hD 2 Z)
     simp only[isV.get (hD 0 Z)]at hK⊢;go_simp;refine(cp.o w' (ae ad.o hS ρ) _ pt e2 bv.o).mono ?_;rintro e F ⟨⟨lr,C,rfl,G,L⟩,hb⟩;exact hK.out _ F (ae hS hb ρ) (aI.old hb) (isP.put ⟨lr,C,rfl,by rw[bu.o]at G;exact G,by rw[bt.o]at L;exact L⟩) δ
    refine ai.cons rfl (fun y w' hS hD K hK=>?_) ?_
    ·obtain⟨lr,C,Q,G,L⟩:=isP.get (p:=ExT lo hi) (hD 3 Z)
     simp only[Q]at hK⊢;go_simp;exact hK.out _ w' hS (aI.old β) (isP.put ⟨lr,C,rfl,G,L⟩) δ
    refine ai.cons rfl (fun y w' hS hD K hK=>?_) ?_
    ·obtain⟨lr,C,Q,G,L⟩:=isP.get (p:=ExT lo hi) (hD 4 Z)
     simp only[Q]at hK⊢;go_simp;exact hK.out _ w' hS (aI.old β) (isP.put ⟨lr,rfl,G⟩) δ
    refine ai.cons rfl (fun y w' hS hD K hK=>?_) ?_
    ·obtain⟨lr,C,Q,G,L⟩:=isP.get (p:=ExT lo hi) (hD 4 Z)
     simp only[Q]at hK⊢;go_simp;exact hK.out _ w' hS (aI.old β) (isP.put ⟨C,rfl,L⟩) δ
    refine ai.cons rfl (fun y w' hS hD K hK=>?_) ?_
    ·go_simp
     exact hK.out _ _ (hS.alloc hS.size _) (aI.old (β.alloc ρ _)) (isP.put ⟨_,_,rfl,hS.size,sh4 RC.zero,Box.new _ _ _ _ rfl⟩) (fun _ j hj H C=>by rcases(show j=7\/j=8 by simpa using hj)with rfl|rfl<;>first|exact absurd rfl H|exact o6 C)
    refine ai.cons rfl (fun y w' hS hD K hK=>?_) ?_
    ·go_simp
     exact hK.out _ _ (hS.alloc hS.size _) (aI.old (β.alloc ρ _)) (isP.put ⟨_,_,rfl,hS.size,sh4 RC.zero,Box.new _ _ _ _ rfl⟩) (fun _ j hj H C=>by rcases(show j=7\/j=8 by simpa using hj)with rfl|rfl<;>first|exact absurd rfl H|exact o6 C)
    refine ai.cons rfl (fun y w' hS hD K hK=>?_) ?_
    ·obtain⟨r,er,C⟩:=isP.get (i:=5) (p:=RaT lo) (hD 5 Z)
     obtain⟨ga,_,ea,U,⟨s0,rfl⟩,J⟩:=isP.get (i:=7) (p:=cO Sh4 w6.heap.size 55) (hD 7 Z);simp only[er,ea]at hK⊢;refine bn ?_;refine wp_store_row 55 _ _ rfl ga (aq r) rfl rfl 55 _ J aY rfl (dn r) ?_;rw[<-jh J r];exact hK.out undef (put4 w' ga 0 r) (aN hS U _ _) (aI.new (Wr.put4 U J _)) (isS.put ν ea U (J.s4 _) ⟨r,rfl,C.put4 J.at1 r⟩) δ
    exact ai.nil
   case hend =>
    intro y w' hS hR hF;obtain⟨gb,_,e7,a1,b7,fq,rfl,h5⟩:=isS.get (i:=7) (n:=w6.heap.size) (t:=55) (p:=fun cs w=>∃r,cs=aq r/\aj w r.agg lo) (hR 9 Z);obtain⟨au,e6,h6⟩:=isP.get (i:=6) (p:=RaT hi) (hR 6 Z);obtain⟨jb,_,e8,ap,⟨s8,rfl⟩,b8⟩:=isP.get (i:=8) (p:=cO Sh4 w6.heap.size 55) (hR 8 Z);have H:gb≠jb:=fun h=>hF 7 (by simp) 8 (by simp) Z Z ν (by rw[e7,e8,h])
    unfold aq at e6;simp only[e6,e7,e8];obtain⟨⟨z0,z1,z2,z3⟩,z4,z5,z6,z7⟩:=b8.at1;refine aK (i:=10) (listed2:=τ 11 0) Z rfl Z (fun K hK=>?_);go_simp;refine hK.out _ _ ?_;clear hK K;refine aM Z ?_;change Exit.then _ _ _ _ (put4 w' jb 0 au);obtain⟨bp,b9,ei,dv,Nb,ag⟩:=η6 (b7.oput4 H 0 au) (b8.s4 au) (h5.put4 b8.at1 au) (h6.put4 b8.at1 au) (And.intro H (And.intro a1 ap)) (aN hS ap 0 au);obtain⟨fc,fa,dk,ca,ej,ek⟩:=η6 (af.o.to ag.o) (ae ad.o ag.o ρ) (b5.o.to ag.o) (b6.o.to ag.o) (eg.o.below ag.o) (du.o.below ag.o);have an:=O (show Bd 1000 lo/\Bd 1000 hi from by rw[<-bu.o,<-bt.o];exact cg.o pt bv.o);clear z0 z1 z2 z3 z4 z5 z6 z7 b7 b8 h5 h6 hS hR hF e6 e7 e8 H a1 ap;generalize put4 w' jb 0 au=w7 at *;obtain⟨y0,y1,y2,y3⟩:=dk.o.at1.1;obtain⟨z0,z1,z2,z3⟩:=bp.o.at1.1
    go_wp2_with fail
    refine(bG _ _ lo lo 1000 1000 w7 ej.o ei.o an.o.1 an.o.1 I).mono ?_;rintro e w8 ⟨rfl,ao⟩;rw[eK.mpr (rfl:lo=lo)];obtain⟨dl,CA,CB,CC,RA,RB⟩:=η6 (ae ag.o ao ρ) (ca.o.to ao) (b9.o.to ao) (bp.o.to ao) (ek.o.below ao) (dv.o.below ao);clear y0 y1 y2 y3 z0 z1 z2 z3 ao;obtain⟨y0,y1,y2,y3⟩:=CA.o.at1.1;obtain⟨z0,z1,z2,z3⟩:=CB.o.at1.1
    go_wp2_with fail
    refine(bG _ _ hi hi 1000 1000 w8 RA.o RB.o an.o.2 an.o.2 I).mono ?_;rintro e w9 ⟨rfl,bk⟩;rw[eK.mpr (rfl:hi=hi)];obtain⟨a8,cc,cd⟩:=η3 (ae dl.o bk ρ) (CB.o.to bk) (CC.o.to bk);have el:=O (af.o.to a8.o);clear y0 y1 y2 y3 z0 z1 z2 z3 bk;obtain⟨c0,c1,-⟩:=el.o.two
    go_wp2_with fail
    refine(dy.o w9 (ae ad.o a8.o ρ)).mono ?_;rintro e R ⟨⟨l0,l1,l2,h0,G,L,rfl,hx,hy⟩,ab⟩
    go_upto_region 11 with(first
     | refine wpList_store_row rfl 57 _ _ rfl R.heap.size (ah l0 l1 l2) rfl rfl 57 _ (qE ..) aP rfl (bq ..) ?_
     | refine wpList_store_row rfl 57 _ _ rfl (R.heap.size+1) (ah h0 G L) rfl rfl 57 _ (qD ..) aP rfl (bq ..) ?_)
    obtain⟨e5,a6,bx,cB,aa⟩:=new_two R (ah RC.zero RC.zero RC.zero) (ah RC.zero RC.zero RC.zero) 57 57 (ah l0 l1 l2) (ah h0 G L);rw[jc]at a6;rw[a6];obtain⟨l3,ac⟩:∃f:Nat->Rat,f=fun k=>(axE dm k).1:=⟨_,rfl⟩
    obtain⟨h3,bF⟩:∃f:Nat->Rat,f=fun k=>(axE dm k).2:=⟨_,rfl⟩
    have cm:=O (show ∀k,(axE dm k).1=l3 k from fun k=>by rw[ac]);have ci:=O (show ∀k,(axE dm k).2=h3 k from fun k=>by rw[bF]);have a9:=O (fun k=>(show Bd 1000 (l3 k)/\Bd 1000 (h3 k)from by rw[<-cm.o,<-ci.o];exact cg.o _ (gV (ax_le k _ I))));have cU:=cc.o.lt;have cV:=cd.o.lt;have et:=ab.size;have d7:=O (show LXI w6.heap.size gb jb R.heap.size (R.heap.size+1) l3 h3 w6 e5 from
     ⟨⟨_,(cd.o.below ab cV).below aa I⟩,⟨_,(cc.o.below ab cU).below aa I⟩,
      (by rw[ac];exact dT.of3 hx aa bx),(by rw[bF];exact dT.of3 hy aa cB),
      ae (ae a8.o ab ρ) aa ρ,Nat.le_trans a8.o.size (Nat.le_trans ab.size aa.size),Nb.o.2.1,Nb.o.2.2,Nb.o.1,by omega,by omega,by omega,by omega⟩)
    clear c0 c1 hx hy ab bx cB aa a6 ac bF cU cV et
    go_wp2_with fail
    go_loopw [15] (fun kv wr=>∃k:Nat,k<=3/\kv=.int .i64 (k:Nat)/\Hid (LXI w6.heap.size gb jb R.heap.size (R.heap.size+1) l3 h3 w6 wr)) (fun kv _=>3-(intOf kv).toNat)
    case atStart=>exact⟨0,by omega,rfl,d7.o⟩
    case round =>
     obtain⟨k,hk,rfl,HX⟩:=hrel;obtain⟨wk,rfl⟩:=φ wr;by_cases h0:k=3
     ·have fn:¬ (k:Int)<3:=I
      go_wp2_with fail
      exact bodyPost_ret (results_tmp results4 _ _ _) rfl ⟨rfl,ae de.o (ae ad.o HX.o.bel ρ) ρ⟩
     ·have fl:(k:Int)<3:=I
      have c5:k<3:=I;have bf:=O c5;obtain⟨b0,da,bi,bm,c8⟩:=aB wk #[.int .i64 0,.int .i64 0,.int .i64 0] 77;obtain⟨em,b4⟩:=η2 (HX.o.below bm) bi;have f3:=bi.free k;have c3:∃u,b0.cell? ⟨wk.heap.size,k,none⟩=some u:=by
       rw[bi.cell];obtain rfl|rfl|rfl:k=0\/k=1\/k=2:=I
       ·exact⟨_,rfl⟩
       ·exact⟨_,rfl⟩
       ·exact⟨_,rfl⟩
      obtain⟨u3,c3⟩:=c3;clear bi bm c8 h0
      go_upto_region 15 with fail
      go_upto_region 16 with fail
      clear da c3 f3;have eB:∃r,Box wk gb (aq r) 55:=HX.o.a;have be:=O (show gb<wk.heap.size/\jb<wk.heap.size/\R.heap.size<wk.heap.size/\R.heap.size+1<wk.heap.size from by
       obtain⟨_,G⟩:=HX.o.a;obtain⟨_,L⟩:=HX.o.z;obtain⟨_,_,_,h3,-⟩:=HX.o.x;obtain⟨_,_,_,h4,-⟩:=HX.o.y;exact⟨G.lt,L.lt,h3.lt,h4.lt⟩)
      clear eB;change Code.wp _ _ _ _ (World.setCell b0 ⟨wk.heap.size,k,none⟩ (.int .i64 1));have eo:=O (LXJ.mk (em.o.axs b4.o be.o k (.int .i64 1)) (b4.o.axis c5) be.o.1 be.o.2.1);generalize World.setCell b0 ⟨wk.heap.size,k,none⟩ (.int .i64 1)=fr at *;refine nZ (LXJ w6.heap.size gb jb R.heap.size (R.heap.size+1) l3 h3 w6 k wk.heap.size) Sh4 7 w6.heap.size 55 (rest:=1) [isV 0 (.agg #[.int .i64 (X:Nat),.slice (some ⟨sb,0,none⟩) a7 bl]),isV 1 (.agg #[.int .i64 (axU k).x,.int .i64 (axU k).y,.int .i64 (axU k).z]),isP 2 (fun u w=>aA w u (ptQ (axU k))),isP 3 (ExT (l3 k) (h3 k)),isP 4 (ExT (l3 k) (h3 k)),isP 5 (RaT (l3 k)),isP 6 (RaT (h3 k)),isW (fun w'=>∃r,Box w' gb (aq r) 55/\aj w' r.agg (l3 k))] [] ?A16 (τ 8 1) Z [0,1,2,3,4,5,6,7] Z Z Z Z Z Z ?st ?st2 ?hA ?hS0 ?hop ?hend
      case hA=>exact cG
      case hS0=>exact eo.o.below β.drew
      case st=>repeat (first|exact ak.nil|refine ak.cons isV.stab ?_|refine ak.cons (isP.stab ExT.stab) ?_|refine ak.cons (isP.stab RaT.stab) ?_|refine ak.cons (isP.stab (fun _ _ _ h hv=>hv.below h)) ?_|refine ak.cons (isW.stab (fun _ _ hb ⟨r,G,L⟩=>⟨r,G.to hb,L.below hb⟩)) ?_)
      case st2=>repeat (first|exact aH.nil|refine aH.cons isV.stabW ?_|refine aH.cons (isP.stabW (ExT.stabW ν)) ?_|refine aH.cons (isP.stabW (RaT.stabW ν)) ?_|refine aH.cons (isP.stabW (iM ν)) ?_|refine aH.cons (isN.stabW (i:=0)) ?_)
      case hop =>
       refine ai.cons rfl (fun y w' hS hD K hK=>?_) ?_
       ·obtain⟨c0,c1,-⟩:=(af.o.to hS.i.bel).two
        go_simp;exact hK.out _ w' hS (aI.old β) isV.put δ
       refine ai.cons rfl (fun y w' hS hD K hK=>?_) ?_
       ·obtain⟨c0,c1,c2,-⟩:=hS.ax.three
        go_simp;exact hK.out _ w' hS (aI.old β) isV.put δ
       refine ai.cons rfl (fun y w' hS hD K hK=>?_) ?_
       ·simp only[isV.get (hD 1 Z)]at hK⊢
        go_simp;refine(lj (axU k) w' (ax_le k _ I)).mono ?_
        rintro e F ⟨⟨v,rfl,hv⟩,hb⟩;exact hK.out v F (hS.below hb) (aI.old hb) (isP.put hv) δ
       refine ai.cons rfl (fun y w' hS hD K hK=>?_) ?_
       ·have e2:=isP.get (p:=fun u w=>aA w u (ptQ (axU k))) (hD 2 Z)
        simp only[isV.get (hD 0 Z)]at hK⊢;go_simp;refine(cp.o w' (ae ad.o hS.i.bel ρ) _ (ptQ (axU k)) e2 (gV (ax_le k _ I))).mono ?_;rintro e F ⟨⟨lr,C,rfl,G,L⟩,hb⟩;exact hK.out _ F (hS.below hb) (aI.old hb) (isP.put ⟨lr,C,rfl,by rw[<-cm.o];exact G,by rw[<-ci.o];exact L⟩) δ
       refine ai.cons rfl (fun y w' hS hD K hK=>?_) ?_
       ·obtain⟨lr,C,Q,G,L⟩:=isP.get (p:=ExT (l3 k) (h3 k)) (hD 3 Z)
        simp only[Q]at hK⊢;go_simp;exact hK.out _ w' hS (aI.old β) (isP.put ⟨lr,C,rfl,G,L⟩) δ
       refine ai.cons rfl (fun y w' hS hD K hK=>?_) ?_
       ·obtain⟨lr,C,Q,G,L⟩:=isP.get (p:=ExT (l3 k) (h3 k)) (hD 4 Z)
        simp only[Q]at hK⊢;go_simp;exact hK.out _ w' hS (aI.old β) (isP.put ⟨lr,rfl,G⟩) δ
       refine ai.cons rfl (fun y w' hS hD K hK=>?_) ?_
       ·obtain⟨lr,C,Q,G,L⟩:=isP.get (p:=ExT (l3 k) (h3 k)) (hD 4 Z)
        simp only[Q]at hK⊢;go_simp;exact hK.out _ w' hS (aI.old β) (isP.put ⟨C,rfl,L⟩) δ
       refine ai.cons rfl (fun y w' hS hD K hK=>?_) ?_
       ·obtain⟨r,er,C⟩:=isP.get (p:=RaT (l3 k)) (hD 5 Z)
        simp only[er]at hK⊢;obtain⟨r0,h0⟩:=hS.i.a;refine bn ?_;refine wp_store_row 55 _ _ rfl gb (aq r) rfl rfl 55 _ h0 aY rfl (dn r) ?_;rw[<-jh h0 r];exact hK.out undef (put4 w' gb 0 r) (hS.sa r) (aI.new (Wr.put4 hS.i.ne.1 h0 r)) ⟨r,h0.s4 r,C.put4 h0.at1 r⟩ δ
       exact ai.nil
      case hend =>
       intro y w' hS hR hF;obtain⟨r1,Y,G⟩:∃r,Box w' gb (aq r) 55/\aj w' r.agg (l3 k):=hR 7 Z;obtain⟨r2,e6,L⟩:=isP.get (i:=6) (p:=RaT (h3 k)) (hR 6 Z);unfold aq at e6;simp only[e6];obtain⟨r0,h0⟩:=hS.i.z;obtain⟨⟨z0,z1,z2,z3⟩,z4,z5,z6,z7⟩:=h0.at1;refine aK (i:=8) (listed2:=τ 9 0) Z rfl Z (fun K hK=>?_);go_simp;refine hK.out _ _ ?_;clear hK K;refine aM Z ?_;obtain⟨X9,G1,I1,G2,I2⟩:=η5 (hS.i.sz_ r2) (Y.oput4 hS.i.ne.2.2.1 0 r2) (G.put4 h0.at1 r2) (h0.s4 r2) (L.put4 h0.at1 r2);change Exit.then _ _ _ _ (put4 w' jb 0 r2);clear z0 z1 z2 z3 z4 z5 z6 z7 Y G e6 L h0 hS hR hF;generalize put4 w' jb 0 r2=A at *
       go_upto_region 17 with fail
       obtain⟨x3,⟨e0,-⟩,db⟩:=X9.o.x.get bf.o;obtain⟨y3,⟨e1,-⟩,dd⟩:=X9.o.y.get bf.o;obtain⟨br,bs⟩:=η2 (fun(x:Later A.heap.size A)=>bG (.agg #[.bool x3.s,.slice x3.a x3.n x3.c,.bool x3.t,.slice x3.b x3.m x3.d]) (.agg #[.bool r1.s,.slice r1.a r1.n r1.c,.bool r1.t,.slice r1.b r1.m r1.d]) (l3 k) (l3 k) 1000 1000 x.w (db.below x.h) (I1.o.below x.h) (a9.o k).1 (a9.o k).1 I) (fun(x:Later A.heap.size A)=>bG (.agg #[.bool y3.s,.slice y3.a y3.n y3.c,.bool y3.t,.slice y3.b y3.m y3.d]) (.agg #[.bool r2.s,.slice r2.a r2.n r2.c,.bool r2.t,.slice r2.b r2.m r2.d]) (h3 k) (h3 k) 1000 1000 x.w (dd.below x.h) (I2.o.below x.h) (a9.o k).2 (a9.o k).2 I);rw[eK.mpr (rfl:l3 k=l3 k)]at br;rw[eK.mpr (rfl:h3 k=h3 k)]at bs;have a2:=G1.o.lt;have a3:=G2.o.lt;have ex:=be.o;obtain⟨p0,p1,p2,p3⟩:=G1.o.at1.1;obtain⟨q0,q1,q2,q3⟩:=G2.o.at1.1;simp only[Nat.zero_add]at p1 p2 p3 q1 q2 q3;obtain⟨x0,x1,x2,x4⟩:=e0;obtain⟨y0,y1,y2,y4⟩:=e1;have ac:R.heap.size<A.heap.size:=by obtain⟨_,_,_,h,-⟩:=X9.o.x;exact h.lt
       have a4:R.heap.size+1<A.heap.size:=by obtain⟨_,_,_,h,-⟩:=X9.o.y;exact h.lt
       have K0:=fun x:Later A.heap.size A=>keepC x0 x.h ac
       have K1:=fun x:Later A.heap.size A=>keepC x1 x.h ac
       have K2:=fun x:Later A.heap.size A=>keepC x2 x.h ac
       have K3:=fun x:Later A.heap.size A=>keepC x4 x.h ac
       have K4:=fun x:Later A.heap.size A=>keepC y0 x.h a4
       have K5:=fun x:Later A.heap.size A=>keepC y1 x.h a4
       have K6:=fun x:Later A.heap.size A=>keepC y2 x.h a4
       have K7:=fun x:Later A.heap.size A=>keepC y4 x.h a4
       have K8:=fun x:Later A.heap.size A=>keepC p0 x.h a2
       have K9:=fun x:Later A.heap.size A=>keepC p1 x.h a2
       have d8:=fun x:Later A.heap.size A=>keepC p2 x.h a2
       have d9:=fun x:Later A.heap.size A=>keepC p3 x.h a2
       have eb:=fun x:Later A.heap.size A=>keepC q0 x.h a3
       have ed:=fun x:Later A.heap.size A=>keepC q1 x.h a3
       have ee:=fun x:Later A.heap.size A=>keepC q2 x.h a3
       have ef:=fun x:Later A.heap.size A=>keepC q3 x.h a3
       clear p0 p1 p2 p3 q0 q1 q2 q3 x0 x1 x2 x4 y0 y1 y2 y4 db dd a2 a3 ac a4 ex;refine dP (Below.refl A.heap.size A) Z Z ?_
       repeat (first|go_big_quiet_skip|(go_big_quiet_want;go_big_quiet_op;go_big_quiet_on))
       go_big_quiet_want;go_big_quiet_op;go_big_quiet_call ((go_at_call 20;exact Calls.later ρ (br.o _)))
       repeat (first|go_big_quiet_skip|(go_big_quiet_want;go_big_quiet_op;go_big_quiet_on))
       go_big_quiet_want;go_big_quiet_op;go_big_quiet_call ((go_at_call 20;exact Calls.later ρ (bs.o _)))
       repeat (first|go_big_quiet_skip|(go_big_quiet_want;go_big_quiet_op;go_big_quiet_on))
       refine wpQuiet_nil ?_;intro fv eT;obtain⟨x,hx⟩:=eT;have cv:=O x.h;rw[<-hx]at cv;have ep:=O (X9.o.below cv.o);clear hx x K0 K1 K2 K3 K4 K5 K6 K7 K8 K9 d8 d9 eb ed ee ef br bs
       go_wp2_with fail
       go_round
       case rel=>exact⟨k+1,bf.o,rfl,ep.o⟩
       case measure=>exact μ (ψ bf.o)
end Go.Proofs.Υ
