/- How a body, a place and a small vector read. -/
import Derived.Test.YtodehkjinmgflaaGreatDoorP51
import Derived.Test.YtodehkjinmgflaaGreatDoorRows
import Derived.Deep.Strs
import Derived.LaidMore
import Derived.Stop.Joined
set_option linter.all false
set_option maxHeartbeats 100000000
set_option maxRecDepth 20000
namespace Go.Proofs.Υ
open Go Go.RowKit Tryz
section
open Go.ChangeShapes Go.WideShapes Go.ChangeAt Go.WideElems
theorem own:ownKnob prog.godebug=none:=by kernel_rfl
theorem tD:laidOutB prog=true:=by kernel_rfl
theorem add_none(b off k:Nat):(⟨b,off,none⟩:Addr).add k=⟨b,off+k,none⟩:=by
 unfold Addr.add
 split
 ·rename_i h
  have:k=0:=by simpa using h
  subst this
  rfl
 ·rfl
theorem i8_in{k:Int}(h:(Lit.int .i8 k).wf=true):-128≤k∧k≤127:=by
 simp only[Lit.wf,Bool.and_eq_true,decide_eq_true_eq]at h;have e:IntKind.i8.min=-128:=by decide
 have i:IntKind.i8.max=127:=by decide
 rw[e,i]at h;exact h
theorem u8_in{k:Int}(h:(Lit.int .u8 k).wf=true):∃n:Nat,k=n∧n<256:=by
 simp only[Lit.wf,Bool.and_eq_true,decide_eq_true_eq]at h;have e:IntKind.u8.min=0:=by decide
 have i:IntKind.u8.max=255:=by decide
 rw[e,i]at h;exact⟨k.toNat,by omega,by omega⟩
theorem tU{H:Type}{enc:TypeId×Value->H}{W:World}{u n:Nat}{t e:TypeId}{k:IntKind}{cl:List Value}{x:DataW H×List MemPlace}(G:prog.underlying t=some (.array n e))(C:prog.underlying e=some (.int k))(hc:prog.cellsOf e=1)(F:prog.cellsOf t=n)(h:DataW.trod enc prog W 0 (fun _=>true) true u t cl=some x):∃f:Nat->Int,cl=(List.range n).map (fun i=>Value.int k (f i))∧∀i,(i<n->(Lit.int k (f i)).wf=true)∧(n≤i->f i=0):=by
 obtain⟨xs,m,-,-,E,L,J⟩:=DataW.trod_array G h;rw[F]at E;have hi:∀i,i<n->∃z,cl[i]?=some (.int k z)∧(Lit.int k z).wf=true:=fun i hi=>by
  have c:=J i hi;rw[hc,Nat.mul_one]at c;obtain⟨y,Q⟩:∃y,xs[i]?=some y:=⟨_,List.getElem?_eq_getElem I⟩;rw[Q]at c;obtain⟨z,j,-,w⟩:=DataW.trod_int C c;refine⟨z,?_,w⟩;have h0:((cl.drop i).take 1)[0]?=some (.int k z):=by rw[j];rfl
  rwa [List.getElem?_take_of_lt I,List.getElem?_drop,Nat.add_zero]at h0
 refine⟨fun i=>match cl[i]? with|some (.int _ z)=>z|_=>0,List.ext_getElem? fun i=>?_,fun i=>⟨fun A=>?_,fun A=>?_⟩⟩
 ·by_cases A:i<n
  ·obtain⟨z,j,-⟩:=hi i A
   rw[List.getElem?_map,List.getElem?_range A,j];simp[j]
  ·rw[List.getElem?_eq_none I,List.getElem?_eq_none (by simp;omega)]
 ·obtain⟨z,j,w⟩:=hi i A
  simp only[j];exact w
 ·simp only[List.getElem?_eq_none (show cl.length≤i by omega)]
theorem small_of{f:Nat->Int}{n:Nat}(e:∀i,(i<n->(Lit.int .i8 (f i)).wf=true)∧(n≤i->f i=0)):cH f:=fun i=>by
 by_cases hi:i<n
 ·exact i8_in ((e i).1 hi)
 ·rw[(e i).2 I];omega
set_option maxRecDepth 100000 in
theorem cellsSm{H:Type}{enc:TypeId×Value->H}{W:World}{i:Nat}{cl:List Value}{x:DataW H×List MemPlace}(h:DataW.trod enc prog W 0 (fun _=>true) true i 29 cl=some x):
 ∃(N:Nat->Int) (D:Nat),cl=(lw N D).toList∧cH N∧D<256:=by
 obtain⟨E,F,n,-,j,h0,A⟩:=trod_struct2 underlying29 h;rw[show prog.cellsOf 29=4 by kernel_rfl]at j
 match cl,j with
 | [c0,c1,c2,c3],_ =>
  obtain⟨f,e,C⟩:=tU (cl:=[c0,c1,c2]) underlying27 underlying25 Z Z h0;obtain⟨z,u,-,w⟩:=DataW.trod_int (cs:=[c3]) underlying5 A;obtain⟨D,rfl,hD⟩:=u8_in w;cases e;cases u;exact⟨f,D,rfl,small_of C,hD⟩
set_option maxRecDepth 100000 in
theorem cellsPl{H:Type}{enc:TypeId×Value->H}{W:World}{i:Nat}{cl:List Value}{x:DataW H×List MemPlace}(h:DataW.trod enc prog W 0 (fun _=>true) true i 31 cl=some x):
 ∃(T N:Nat->Int) (D:Nat),cl=(kW T N D).toList∧cH T∧cH N∧D<256:=by
 obtain⟨F,G,n,-,j,h0,A⟩:=trod_struct2 underlying31 h;rw[show prog.cellsOf 31=8 by kernel_rfl]at j
 match cl,j with
 | [c0,c1,c2,c3,c4,c5,c6,c7],_ =>
  obtain⟨f,e,E⟩:=tU (cl:=[c0,c1,c2,c3]) underlying26 underlying25 Z Z h0;obtain⟨N,D,u,C,hD⟩:=cellsSm (cl:=[c4,c5,c6,c7]) A;cases e;cases u;exact⟨f,N,D,rfl,small_of E,C,hD⟩
set_option maxRecDepth 100000 in
theorem small_arg{H:Type}{enc:TypeId×Value->H}{W:World}{base:Nat}{v:Value}{d:DataW H}{p:List MemPlace}(i:Value.okWide prog W .any base 29 v)(h0:DataW.Trod enc prog W 0 (fun _=>true) true 29 v d p):
 ∃(N:Nat->Int) (D:Nat),v=.agg (lw N D)∧cH N∧D<256:=by
 unfold Value.okWide at i;rw[underlying29]at i;obtain⟨cs,rfl,-⟩:=i;obtain⟨j,h0⟩:=h0;obtain⟨N,D,e,u,hD⟩:=cellsSm h0;exact⟨N,D,by rw[show cs=lw N D from Array.toList_inj.mp e],u,hD⟩
def pl2(T N T' N':Nat->Int)(D D':Nat):Array Value:=((kW T N D).toList++(kW T' N' D').toList).toArray
set_option maxRecDepth 100000 in
theorem places_arg{H:Type}{enc:TypeId×Value->H}{W:World}{base:Nat}{v:Value}{d:DataW H}{p:List MemPlace}(A:Value.okWide prog W .any base 32 v)(h0:DataW.Trod enc prog W 0 (fun _=>true) true 32 v d p):
 ∃(T N u j:Nat->Int) (D i:Nat),v=.agg (pl2 T N u j D i)∧(cH T∧cH N∧D<256)∧cH u∧cH j∧i<256:=by
 unfold Value.okWide at A;rw[underlying32]at A;obtain⟨cs,rfl,-⟩:=A;obtain⟨G,h0⟩:=h0;obtain⟨xs,m,-,-,R,E,C⟩:=DataW.trod_array underlying32 (show DataW.trod _ _ _ _ _ _ _ _ cs.toList=some _ from h0);rw[show prog.cellsOf 32=16 by kernel_rfl]at R;rw[show prog.cellsOf 31=8 by kernel_rfl]at C
 match xs,E with
 | [x0,x1],_ =>
  obtain⟨T,N,D,e,L⟩:=cellsPl (C 0 I);obtain⟨u,j,i,J,Q⟩:=cellsPl (C 1 I);refine⟨T,N,u,j,D,i,?_,L,Q⟩;have F:cs.toList=(cs.toList.drop (0*8)).take 8++(cs.toList.drop (1*8)).take 8:=by
   rw[Nat.zero_mul,List.drop_zero,Nat.one_mul,List.take_of_length_le (l:=cs.toList.drop 8) (by rw[List.length_drop];omega),List.take_append_drop]
  rw[e,J]at F;rw[show cs=pl2 T N u j D i from Array.toList_inj.mp (by rw[F];rfl)]
set_option maxRecDepth 100000 in
theorem cellsBl{H:Type}{enc:TypeId×Value->H}{W:World}{A:Nat}{cl:List Value}{x:DataW H×List MemPlace}(h:DataW.trod enc prog W 0 (fun _=>true) true A 106 cl=some x):
 ∃b:Blk,cl=(eJ b).toList∧b.ok:=by
 obtain⟨U,X,Y,n,-,E,h0,J,L⟩:=Deep.trod_struct3 underlying106 h;rw[show prog.cellsOf 106=7 by kernel_rfl]at E
 match cl,E with
 | [c0,c1,c2,c3,c4,c5,c6],_ =>
  obtain⟨z,e,-,w⟩:=DataW.trod_int (cs:=[c0]) underlying5 h0;obtain⟨f,F,u⟩:=tU (cl:=[c1,c2,c3]) underlying104 underlying5 Z Z J;obtain⟨g,G,C⟩:=tU (cl:=[c4,c5,c6]) underlying104 underlying5 Z Z L;obtain⟨k,rfl,Q⟩:=u8_in w;have j:∀{f:Nat->Int},(∀i,(i<3->(Lit.int .u8 (f i)).wf=true)∧(3≤i->f i=0))->∀i,((f i).toNat:Int)=f i∧(f i).toNat<256:=fun u i=>by
   by_cases hi:i<3
   ·obtain⟨m,e,R⟩:=u8_in ((u i).1 hi)
    rw[e];exact⟨rfl,R⟩
   ·rw[(u i).2 I];exact⟨rfl,by decide⟩
  cases e;cases F;cases G;refine⟨⟨k,fun i=>(f i).toNat,fun i=>(g i).toNat⟩,?_,Q,fun i=>⟨(j u i).2,(j C i).2⟩⟩;show[Value.int .u8 (k:Int),.int .u8 (f 0),.int .u8 (f 1),.int .u8 (f 2),.int .u8 (g 0),.int .u8 (g 1),.int .u8 (g 2)]=[.int .u8 (k:Int),.int .u8 ((f 0).toNat:Int),.int .u8 ((f 1).toNat:Int),.int .u8 ((f 2).toNat:Int),.int .u8 ((g 0).toNat:Int),.int .u8 ((g 1).toNat:Int),.int .u8 ((g 2).toNat:Int)];rw[(j u 0).1,(j u 1).1,(j u 2).1,(j C 0).1,(j C 1).1,(j C 2).1]
set_option maxRecDepth 100000 in
theorem body_arg{H:Type}{enc:TypeId×Value->H}{W:World}{base:Nat}{v:Value}{d:DataW H}{p:List MemPlace}(hv:Value.okWide prog W .any base 24 v)(h0:DataW.Trod enc prog W 0 (fun _=>true) true 24 v d p):
 ∃(D:Nat) (a:Option Addr) (len A:Nat) (B:Nat->Blk),v=.agg #[.int .u8 (D:Nat),.slice a len A]∧D<256∧len≤9223372036854775807∧Blks W a len A B:=by
 unfold Value.okWide at hv;rw[underlying24]at hv;obtain⟨cs,rfl,Q,ts,R,-,J⟩:=hv;rw[show prog.cellsOf 24=2 by kernel_rfl]at Q;obtain⟨l⟩:=cs
 match l,Q with
 | [c0,c],_ =>
  rw[show prog.cellTypes prog.depth 24=some [5,22] by kernel_rfl]at R;cases R;obtain⟨u,hu,hc⟩:=J 1 c rfl;cases hu;obtain⟨ac,h0⟩:=h0;obtain⟨y0,y1,n,-,-,hd,hy⟩:=trod_struct2 underlying24 h0;obtain⟨z,e,-,w⟩:=DataW.trod_int (cs:=[c0]) underlying5 hd;obtain⟨D,rfl,hD⟩:=u8_in w;cases e;refine(fun(h:∃(a:Option Addr) (len A:Nat) (B:Nat->Blk),c=.slice a len A∧len≤9223372036854775807∧Blks W a len A B)=>?_) ?_
  ·obtain⟨a,len,A,B,rfl,U,hB⟩:=h
   exact⟨D,a,len,A,B,rfl,hD,U,hB⟩
  rcases DataW.trod_slice (cs:=[c]) underlying22 hy with⟨hcs,-⟩|⟨a,len,A,E,rest,n',-,hcs,-,-,U,Y,ad,aa,-,-⟩
  ·have:c=.slice none 0 0:=(List.cons.inj (show[c]=[.slice none 0 0] from hcs)).1
   subst this;exact⟨none,0,0,fun _=>blk0,rfl,by omega,Nat.le_refl _,fun _=>rfl,(fun x h=>by cases h),fun i hi=>by omega⟩
  ·have:c=.slice (some a) len A:=(List.cons.inj (show[c]=[.slice (some a) len A] from hcs)).1
   subst this;simp only[Cell.okWide,Cell.ok,underlying22]at hc;obtain⟨-,-,-,L,row,cells,C,-⟩:=hc;obtain⟨b,off,sp⟩:=a;simp only at L;subst L;have hb:b<W.heap.size:=by
    unfold World.shape? at C
    cases X:W.heap[b]? with
    | none=>simp[X]at C
    | some o=>exact(Array.getElem?_eq_some_iff.1 X).1
   have G:∀i,i<len->∃q:Blk,q.ok∧∀j,j<7->W.cell? ⟨b,off+i*7+j,none⟩=(eJ q)[j]? := fun i hi=>by
    have h1:=aa i hi;obtain⟨y,ab⟩:∃y,E[i]?=some y:=⟨_,List.getElem?_eq_getElem I⟩;rw[ab,show prog.cellsOf 106=7 by kernel_rfl,Option.bind_eq_some_iff]at h1;obtain⟨cl,F,ht⟩:=h1;unfold World.cells? at F;rw[if_pos (Nat.zero_le _)]at F;obtain⟨q,rfl,X⟩:=cellsBl ht;refine⟨q,X,fun j hj=>?_⟩;have g:=mapM_some_get F j j (by rw[List.getElem?_range hj]);rw[add_none,add_none]at g;rw[g];exact Array.getElem?_toList
   refine⟨some ⟨b,off,none⟩,len,A,fun i=>if h:i<len then(G i h).choose else blk0,rfl,Nat.le_trans U (Nat.le_trans Y (by unfold maxLen;omega)),U,(fun h=>by cases h),(fun x hx=>?_),fun i hi=>?_⟩
   ·cases hx
    refine⟨rfl,hb,fun i hi=>?_⟩;simp only[dif_pos hi];exact(G i hi).choose_spec.2
   ·simp only[dif_pos hi]
    exact(G i hi).choose_spec.1
end
theorem pl2_at{T N i e:Nat->Int}{E E':Nat}:(∀j,j<(kW T N E).size->(pl2 T N i e E E')[0+j]?=(kW T N E)[j]?)∧∀j,j<(kW i e E').size->(pl2 T N i e E E')[8+j]?=(kW i e E')[j]? := by
 refine⟨fun j u=>?_,fun j u=>?_⟩
 ·have:j<8:=u
  match j,this with
  | 0,_=>rfl
  | 1,_=>rfl
  | 2,_=>rfl
  | 3,_=>rfl
  | 4,_=>rfl
  | 5,_=>rfl
  | 6,_=>rfl
  | 7,_=>rfl
 ·have:j<8:=u
  match j,this with
  | 0,_=>rfl
  | 1,_=>rfl
  | 2,_=>rfl
  | 3,_=>rfl
  | 4,_=>rfl
  | 5,_=>rfl
  | 6,_=>rfl
  | 7,_=>rfl
theorem infoPla:(prog.info? 31).map (·.size)=some 8:=by kernel_rfl
theorem mQ(ca:∀v,Tab v->gR v->Calls prog 7 #[] v fun e w'=>e=.returned (.bool true)∧Below v.heap.size v w')(D:Nat)(a:Option Addr)(len ac:Nat)(B:Nat->Blk)(T N T' N' N2:Nat->Int)(E E' E2:Nat)(w:World)(hT:Tab w)(hV:gR w)(hD:D<256)(ab:len≤9223372036854775807)(hB:Blks w a len ac B)(h1:cH T∧cH N∧E<256)(h2:cH T'∧cH N'∧E'<256)(h3:cH N2∧E2<256):
 Calls prog 3 #[.agg #[.int .u8 (D:Nat),.slice a len ac],.agg (pl2 T N T' N' E E'),.agg (lw N2 E2)] w fun e w'=>e=.returned (.bool true)∧Below w.heap.size w w':=by
 obtain⟨W,hW,b1,b2,b3,af,hS⟩:=ck w #[.int .u8 (D:Nat),.slice a len ac] (pl2 T N T' N' E E') (lw N2 E2) 24 32 29;obtain⟨bm,cm,B1,B2,B3,HT,HV,bf,HD⟩:=η9 ca af b1 b2 b3 (hT.below af hT.1) (hV.below af) (hB.below af ρ) hD;obtain⟨cv,H1,H2,H3⟩:=η4 ab h1 h2 h3;clear ca hT hV hD ab hB h1 h2 h3 b1 b2 b3 af hS
 go_enter func3,ntmps3
 go_wp2_with fail
 refine(bm.o _ HT.o HV.o).mono ?_;rintro e J ⟨rfl,R⟩;obtain⟨K1,C1,C2,C3,bv,bz,bg,HQ,Y⟩:=η9 R (B1.o.to R) (B2.o.to R) (B3.o.to R) (HT.o.below R HT.o.1) (HV.o.below R) (bf.o.below R ρ) (o8 T) (o8 T');have bt:=O (partL_ok len B);obtain⟨F,b9⟩:∃n:Nat,1+D % 9=n:=⟨_,rfl⟩;have bl:=O (show 1≤F∧F≤9 by omega);have cD:=O (fun(w':World) (h:Below J.heap.size J w')=>(show Calls prog 9 #[.agg #[.int .u8 (D:Nat),.slice a len ac]] w' fun e A=>(∃v ad,e=.returned (.agg #[.string ⟨#[112,97,114,116]⟩,.int .i64 (F:Nat),v])∧CelR A w'.heap.size v ad ((eH len B).map Blk.pts))∧Below w'.heap.size w' A from by rw[<-b9];exact part_any a len ac D B w' (bg.o.below h ρ) HD.o cv.o));clear R hW bm HT HV bf B1 B2 B3 b9
 go_upto_region 3 with fail
 refine eY Sh2 10 36 (rest:=1) [isV 0 (.agg #[.int .u8 (D:Nat),.slice a len ac]),isP 1 (oF J.heap.size ⟨#[112,97,114,116]⟩ (F:Nat) ((eH len B).map Blk.pts)),isV 2 (.pointer (some ⟨w.heap.size+1,0,none⟩)),isV 3 (.agg (kW T N E)),isV 4 (.agg (plc (bA (cA T)) (cj N E))),isP 5 (jh (F:Nat) J.heap.size (cE (bA (cA T)) (cj N E)) (eH len B)),isP 6 (jh (F:Nat) J.heap.size (cE (bA (cA T)) (cj N E)) (eH len B)),isP 7 (mI (F:Nat) J.heap.size (cE (bA (cA T)) (cj N E)) (eH len B)),isV 8 (.int .i64 0),isP 9 (eW Sh2 J.heap.size 36),isS 9 J.heap.size 36 (tY (F:Nat) J.heap.size (cE (bA (cA T)) (cj N E)) (eH len B))] [9] ?A1 (τ 11 1) Z [0,1,2,3,4,5,6,7,8,9,10] Z Z Z Z Z Z ?st ?st2 ?hA ?hop ?hend
 case hA=>exact cO
 case st=>repeat (first|exact am.nil|refine am.cons isV.stab ?_|refine am.cons (isP.stab eW.stab) ?_|refine am.cons (isP.stab jh.stab) ?_|refine am.cons (isP.stab mI.stab) ?_|refine am.cons (isP.stab oF.stab) ?_|refine am.cons (isS.stab tY.stab) ?_)
 case st2=>repeat (first|exact aY.nil|refine aY.cons isV.stabW ?_|refine aY.cons (isN.stabW (i:=0)) ?_|refine aY.cons (isP.stabW eW.stabW) ?_|refine aY.cons (isP.stabW (jh.stabW nc)) ?_|refine aY.cons (isP.stabW (mI.stabW nc)) ?_|refine aY.cons (isP.stabW (oF.stabW ν ν)) ?_)
 case hop =>
  refine ai.cons rfl (fun y w' hS hD K hK=>?_) ?_
  ·obtain⟨c0,c1,-⟩:=(C1.o.to hS).two
   go_simp;exact hK.out _ w' hS (bo.old β) isV.put δ
  refine ai.cons rfl (fun y w' hS hD K hK=>?_) ?_
  ·simp only[isV.get (hD 0 Z)]at hK⊢
   go_simp;refine(cD.o w' hS).mono ?_
   rintro e A ⟨⟨v,ad,rfl,hc⟩,hb⟩;obtain⟨pa,pn,pc,rfl⟩:=eS hc.own;exact hK.out _ A (ae hS hb ρ) (bo.old hb) (isP.put ⟨pa,pn,pc,ad,rfl,hc.down hS.size⟩) δ
  refine ai.cons rfl (fun y w' hS hD K hK=>?_) ?_
  ·go_simp
   exact hK.out _ w' hS (bo.old β) isV.put δ
  refine ai.cons rfl (fun y w' hS hD K hK=>?_) ?_
  ·simp only[isV.get (hD 2 Z)]at hK⊢
   refine bM ?_;refine aX 31 _ rfl (w.heap.size+1) 0 rfl (kW T N E) _ (fun j hj=>((C2.o.to hS).cell (0+j)).trans (pl2_at.1 j hj)) underlying31 rfl infoPla ?_;exact hK.out _ w' hS (bo.old β) isV.put δ
  refine ai.cons rfl (fun y w' hS hD K hK=>?_) ?_
  ·simp only[isV.get (hD 3 Z)]at hK⊢
   go_simp;refine(iM T N E w' H1.o.1 H1.o.2.1 H1.o.2.2).mono ?_
   rintro e A ⟨rfl,hb⟩;exact hK.out _ A (ae hS hb ρ) (bo.old hb) isV.put δ
  refine ai.cons rfl (fun y w' hS hD K hK=>?_) ?_
  ·obtain⟨pa,pn,pc,ad,C,hc⟩:=isP.get (p:=oF J.heap.size ⟨#[112,97,114,116]⟩ (F:Nat) ((eH len B).map Blk.pts)) (hD 1 Z)
   simp only[C]at hK⊢;simp only[isV.get (hD 4 Z)]at hK⊢;go_simp;refine(sof_any _ F _ ad (eH len B) _ _ (1+E % 6) 128 J.heap.size w' ⟨by have:=bl.o;omega,by have:=bl.o;omega⟩ bt.o hc (bv.o.below hS bv.o.1) (bz.o.below hS) HQ.o (jZ H1.o.2.1 E) ⟨by omega,by omega⟩ (dS H1.o.2.1 E) I).mono ?_;rintro e A ⟨⟨v,vs,ds,rfl,hl,G⟩,hb⟩;exact hK.out _ A (ae hS hb ρ) (bo.old hb) (isP.put ⟨_,rfl,vs,ds,hl.down hS.size,G⟩) δ
  refine ai.cons rfl (fun y w' hS hD K hK=>?_) ?_
  ·obtain⟨v,C,G⟩:=isP.get (p:=jh (F:Nat) J.heap.size (cE (bA (cA T)) (cj N E)) (eH len B)) (hD 5 Z)
   simp only[C]at hK⊢;go_simp;exact hK.out _ w' hS (bo.old β) (isP.put ⟨v,rfl,G⟩) δ
  refine ai.cons rfl (fun y w' hS hD K hK=>?_) ?_
  ·obtain⟨v,C,G⟩:=isP.get (p:=jh (F:Nat) J.heap.size (cE (bA (cA T)) (cj N E)) (eH len B)) (hD 6 Z)
   simp only[C]at hK⊢;go_simp;exact hK.out _ w' hS (bo.old β) (isP.put ⟨v,rfl,G⟩) δ
  refine ai.cons rfl (fun y w' hS hD K hK=>?_) ?_
  ·obtain⟨v,C,G⟩:=isP.get (p:=jh (F:Nat) J.heap.size (cE (bA (cA T)) (cj N E)) (eH len B)) (hD 6 Z)
   simp only[C]at hK⊢;go_simp;exact hK.out _ w' hS (bo.old β) isV.put δ
  refine ai.cons rfl (fun y w' hS hD K hK=>?_) ?_
  ·go_simp
   exact hK.out _ _ (hS.alloc hS.size _) (bo.old (β.alloc ρ _)) (isP.put ⟨_,_,rfl,hS.size,⟨_,_,rfl⟩,Box.new _ _ _ _ rfl⟩) (fun _ j hj db _=>absurd (List.mem_singleton.1 hj) db)
  refine ai.cons rfl (fun y w' hS hD K hK=>?_) ?_
  ·obtain⟨v,C,G⟩:=isP.get (p:=mI (F:Nat) J.heap.size (cE (bA (cA T)) (cj N E)) (eH len B)) (hD 7 Z)
   obtain⟨ga,_,ea,ay,⟨_,_,rfl⟩,av⟩:=isP.get (i:=9) (p:=eW Sh2 J.heap.size 36) (hD 9 Z);simp only[C,ea]at hK⊢;obtain⟨a,n,k,rfl⟩:=G.sl;refine bM ?_;refine wp_store_row 36 _ _ rfl ga #[.int .i64 (F:Nat),.slice a n k] rfl rfl 36 _ av oN rfl (by simp[Value.oneCell']) ?_;exact hK.out undef _ (hS.grown (bQ w' ga _) hS.size (fun g e=>by cases e;exact ay)) (bo.new (Wr.row ay av ⟨_,_,rfl⟩)) (isS.put ν ea ay (dI av _) ⟨_,rfl,G.wr nc (Wr.row (Sh:=Sh2) ay av ⟨_,_,rfl⟩)⟩) δ
  exact ai.nil
 case hend =>
  intro y w' hS hR hF;have e8:=isV.get (hR 8 Z);simp only[e8];obtain⟨gs,_,b6,da,b4,vs,rfl,ce⟩:=isS.get (i:=9) (n:=J.heap.size) (t:=36) (p:=tY (F:Nat) J.heap.size (cE (bA (cA T)) (cj N E)) (eH len B)) (hR 10 Z);simp only[b6];refine aJ (i:=11) (listed2:=τ 12 0) Z rfl Z (fun K hK=>?_);go_simp;refine hK.out _ _ ?_;clear hK K;refine aM Z ?_;obtain⟨ba,be,bc,rfl⟩:=ce.sl;obtain⟨vs,ds,cd,a2⟩:=ce;obtain⟨cF,SB,bu,ao,D2,D3,a6⟩:=η7 hS b4 cd a2 (C2.o.to hS) (C3.o.to hS) (bz.o.below hS);clear hS hR hF e8 b6 b4 cd a2 da
  go_wp2_with (refine ak rfl _ _ rfl (w.heap.size+1) 8 rfl (kW T' N' E') _ (fun j hj=>(D2.o.cell (8+j)).trans (pl2_at.2 j hj)) underlying31 rfl infoPla ?_)
  obtain⟨w2,rfl⟩:∃w2,w2=w':=⟨_,rfl⟩;refine(iM T' N' E' w2 H2.o.1 H2.o.2.1 H2.o.2.2).mono ?_;rintro e w3 ⟨rfl,b7⟩;have L3:=O b7;clear b7
  go_wp2_with fail
  refine(mof_any (bA (cA T')) (cj N' E') w3 (a6.o.below L3.o) Y.o (jZ H2.o.2.1 E')).mono ?_;rintro e w4 ⟨⟨vm,rfl,ma,mb,mc,ms,rfl,cc⟩,b8⟩;obtain⟨L4,bs⟩:=η2 (ae L3.o b8 ρ) cc;clear b8 cc
  go_upto_region 5 with(refine aB rfl _ _ _ rfl _ (aH ma mb mc ms) rfl rfl ew rfl (iF ..) ?_)
  obtain⟨X,cg,c5,a8,de⟩:=aA w4 (aH ma mb mc ms) 60;rw[cg];obtain⟨MB,L5,MR⟩:=η3 c5 (ae L4.o a8 ρ) (bs.o.below a8);obtain⟨ar,a7,V5,cU⟩:=η4 (SB.o.to L5.o) (bu.o.below L5.o) (D3.o.to L5.o) (a6.o.below L5.o);obtain⟨m1,az⟩:∃m,cE (bA (cA T)) (cj N E)=m:=ξ;obtain⟨m2,U⟩:∃m,cE (bA (cA T')) (cj N' E')=m:=ξ;obtain⟨Q,a0⟩:∃p,cj N2 E2=p:=ξ;have ab:=ao.o.len;have dd:=bt.o.len;have HN:=O (show 0<(ds.map (ShD.move m1)).length∧(ds.map (ShD.move m1)).length≤1000 by rw[List.length_map];omega);have an:=O (show ∀d∈ds.map (ShD.move m1),ShF d (sqn (bA (cA T))*(1+E % 6)) 200000 231928233984 from fun d hd=>by
   obtain⟨d0,h0,rfl⟩:=List.mem_map.1 hd;obtain⟨b,hb⟩:=ao.o.mem h0;rw[<-az];exact fst_shf hb HQ.o H1.o.2.1)
  have cr:=O (show ∀d∈(ds.map (ShD.move m1)).map (ShD.move m2),ShF d (sqn (bA (cA T'))*(sqn (bA (cA T))*(1+E % 6)*(1+E' % 6))) 3000000000 400771988324352 from fun d hd=>by
   obtain⟨d1,h1,rfl⟩:=List.mem_map.1 hd;obtain⟨d0,h0,rfl⟩:=List.mem_map.1 h1;obtain⟨b,hb⟩:=ao.o.mem h0;rw[<-az,<-U];exact snd_shf hb HQ.o H1.o.2.1 Y.o H2.o.2.1)
  have cy:=O (show MvOk (bA (cA T')) (cj N' E') (sqn (bA (cA T))*(1+E % 6)) 200000 231928233984 (1+E' % 6) 128 from⟨Y.o,dS H2.o.2.1 E',by have:=tM HQ.o E;omega,by omega,by omega,by omega,by omega⟩);have a4:=O (show BdV 2 Q by rw[<-a0];exact shift_bd H3.o.1 E2);have cl:=O (show BdV 2 (aK m2 Q) by rw[<-a0,<-U];exact apply_bd Y.o H2.o.2.1 H3.o.1);have cu:=O (show eI ((ds.map (ShD.move m1)).map (ShD.move m2)) (aK m2 Q)=eI (ds.map (ShD.move m1)) Q from sr (by rw[<-U];exact mot_rot Y.o _) (fun d hd=>(an.o d hd).off) Q);have a5:=O (fun(w':World) (h:Below X.heap.size X w')=>(show Calls prog 13 #[.agg (lw N2 E2)] w' fun e A=>fG A e Q∧Below w'.heap.size w' A from by rw[<-a0];exact small_any N2 E2 w' (cU.o.below h) H3.o.1 H3.o.2));have cB:=O (show MotR X ma mb mc ms m2 by rw[<-U];exact MR.o);have bk:=O (show sqn (bA (cA T))*(1+E % 6)≤1000000000 by have:=tM HQ.o E;omega);have cq:=O (snd_den (E:=E) (E':=E') HQ.o Y.o);have cn:=O (show ∀i,BdV 2 (m2.row i) by rw[<-U];exact mot_bd Y.o _);have cp:=O (show BdV 2 m2.s by rw[<-U];exact shift_bd H2.o.2.1 E');have bp:=O U;have br:=O (show((ds.map (ShD.move m1)).map (ShD.move m2)).length=(ds.map (ShD.move m1)).length by rw[List.length_map]);rw[az]at a7;have ci:=O (ae cm.o (ae K1.o (ae cF.o L5.o ρ) ρ) ρ);clear cg c5 a8 de ab dd U az a0 bu SB MR bs L4 L3 a6 ao;generalize ds.map (ShD.move m1)=dm at *;generalize ch:iH (eI dm Q) dm.length=z;generalize a9:dH (eI dm Q) dm.length=cs;obtain⟨HZ,a3⟩:=η2 ch a9;have bi:=O (show cs.length<4611686018427387904 by
   rw[<-a9];unfold dH;refine Nat.lt_of_le_of_lt (List.length_filter_le _ _) ?_;rw[List.length_range];have:=HN.o;omega)
  clear ch a9
  go_upto_region 7 with fail
  refine aS (rest:=1) [isV 0 (.agg #[.int .i64 (F:Nat),.slice ba be bc]),isV 1 (.agg (lw N2 E2)),isP 2 (fun u w=>aq w u Q),isP 3 (fZ z X.heap.size cs),isP 4 (fZ z X.heap.size cs),isV 5 (.int .i64 z),isP 6 (fun u w=>aZ w X.heap.size u cs),isV 7 (.int .i64 z)] [] ?A2 (τ 8 1) Z [0,1,2,3,4,5,6,7] Z Z Z Z Z Z ?st ?hA ?hop ?hend
  case hA=>exact cO
  case st=>repeat (first|exact am.nil|refine am.cons isV.stab ?_|refine am.cons (isP.stab fZ.stab) ?_|refine am.cons (isP.stab mh) ?_|refine am.cons (isP.stab (fun _ _ _ h L=>L.below h)) ?_)
  case hop =>
   refine ai.cons rfl (fun y w' hS hD K hK=>?_) ?_
   ·obtain⟨c0,c1,-⟩:=(ar.o.to hS).two
    go_simp;exact hK.out _ w' hS β isV.put δ
   refine ai.cons rfl (fun y w' hS hD K hK=>?_) ?_
   ·refine bM ?_
    refine aX 29 _ rfl (w.heap.size+2) 0 rfl (lw N2 E2) _ (fun j hj=>(V5.o.to hS).whole j hj) underlying29 rfl infoSm ?_;exact hK.out _ w' hS β isV.put δ
   refine ai.cons rfl (fun y w' hS hD K hK=>?_) ?_
   ·simp only[isV.get (hD 1 Z)]at hK⊢
    go_simp;refine(a5.o w' (show Below X.heap.size X w' from hS)).mono ?_
    rintro e A ⟨⟨v,rfl,L⟩,hb⟩;exact hK.out v A (ae hS hb ρ) hb (isP.put L) δ
   refine ai.cons rfl (fun y w' hS hD K hK=>?_) ?_
   ·have e2:=isP.get (p:=fun u w=>aq w u Q) (hD 2 Z)
    simp only[isV.get (hD 0 Z)]at hK⊢;go_simp;refine(pA (F:Nat) _ _ vs dm Q (sqn (bA (cA T))*(1+E % 6)) 200000 231928233984 J.heap.size w' (a7.o.below hS) HN.o an.o bk.o I I e2 (a4.o.mono I)).mono ?_;rintro e A ⟨⟨v,rfl,L⟩,hb⟩;have ag:=bP L hS.size;exact hK.out _ A (ae hS hb ρ) hb (isP.put ⟨v,by rw[HZ.o],by rw[<-a3.o];exact ag⟩) δ
   refine ai.cons rfl (fun y w' hS hD K hK=>?_) ?_
   ·obtain⟨v,C,G⟩:=isP.get (p:=fZ z X.heap.size cs) (hD 3 Z)
    simp only[C]at hK⊢;go_simp;exact hK.out _ w' hS β (isP.put ⟨v,rfl,G⟩) δ
   refine ai.cons rfl (fun y w' hS hD K hK=>?_) ?_
   ·obtain⟨v,C,G⟩:=isP.get (p:=fZ z X.heap.size cs) (hD 4 Z)
    simp only[C]at hK⊢;go_simp;exact hK.out _ w' hS β isV.put δ
   refine ai.cons rfl (fun y w' hS hD K hK=>?_) ?_
   ·obtain⟨v,C,G⟩:=isP.get (p:=fZ z X.heap.size cs) (hD 4 Z)
    simp only[C]at hK⊢;go_simp;exact hK.out _ w' hS β (isP.put G) δ
   refine ai.cons rfl (fun y w' hS hD K hK=>?_) ?_
   ·simp only[isV.get (hD 5 Z)]at hK⊢
    go_simp;exact hK.out _ w' hS β isV.put δ
   exact ai.nil
  case hend =>
   intro y w' hS hR hF;have e5:=isV.get (hR 5 Z);obtain⟨vo,H⟩:∃v,y 6=v:=ξ;have ho:=isP.get (i:=6) (p:=fun u w=>aZ w X.heap.size u cs) (hR 6 Z);rw[H]at ho;have e7:=isV.get (hR 7 Z);simp only[e5,H,e7];refine aJ (i:=8) (listed2:=τ 9 0) Z rfl Z (fun K hK=>?_);go_simp;refine hK.out _ _ ?_;clear hK K;refine aM Z ?_;have c3:=O ho;obtain⟨w6,rfl⟩:∃w6,w6=w':=⟨_,rfl⟩;obtain⟨L6,au,V6,b0⟩:=η4 hS (ar.o.to hS) (V5.o.to hS) (a7.o.below hS);clear hS hR hF ho e5 e7 H
   go_upto_region 8 with fail
   refine aS (rest:=1) [isV 0 (.agg #[.int .i64 (F:Nat),.slice ba be bc]),isV 1 (.agg (lw N2 E2)),isP 2 (fun u w=>aq w u Q),isP 3 (fZ z w6.heap.size cs),isP 4 (fZ z w6.heap.size cs),isV 5 (.int .i64 z),isP 6 (fun u w=>aZ w w6.heap.size u cs),isV 7 (.int .i64 z)] [] ?A3 (τ 8 1) Z [0,1,2,3,4,5,6,7] Z Z Z Z Z Z ?st ?hA ?hop ?hend
   case hA=>exact cO
   case st=>repeat (first|exact am.nil|refine am.cons isV.stab ?_|refine am.cons (isP.stab fZ.stab) ?_|refine am.cons (isP.stab mh) ?_|refine am.cons (isP.stab (fun _ _ _ h L=>L.below h)) ?_)
   case hop =>
    refine ai.cons rfl (fun y w' hS hD K hK=>?_) ?_
    ·obtain⟨c0,c1,-⟩:=(au.o.to hS).two
     go_simp;exact hK.out _ w' hS β isV.put δ
    refine ai.cons rfl (fun y w' hS hD K hK=>?_) ?_
    ·refine bM ?_
     refine aX 29 _ rfl (w.heap.size+2) 0 rfl (lw N2 E2) _ (fun j hj=>(V6.o.to hS).whole j hj) underlying29 rfl infoSm ?_;exact hK.out _ w' hS β isV.put δ
    refine ai.cons rfl (fun y w' hS hD K hK=>?_) ?_
    ·simp only[isV.get (hD 1 Z)]at hK⊢
     go_simp;refine(a5.o w' (show Below X.heap.size X w' from ae L6.o hS ρ)).mono ?_
     rintro e A ⟨⟨v,rfl,L⟩,hb⟩;exact hK.out v A (ae hS hb ρ) hb (isP.put L) δ
    refine ai.cons rfl (fun y w' hS hD K hK=>?_) ?_
    ·have e2:=isP.get (p:=fun u w=>aq w u Q) (hD 2 Z)
     simp only[isV.get (hD 0 Z)]at hK⊢;go_simp;refine(rloc_any (F:Nat) _ _ vs dm Q (sqn (bA (cA T))*(1+E % 6)) 200000 231928233984 J.heap.size w' (b0.o.below hS) HN.o an.o bk.o I I e2 (a4.o.mono I)).mono ?_;rintro e A ⟨⟨v,rfl,L⟩,hb⟩;have ag:=bP L hS.size;exact hK.out _ A (ae hS hb ρ) hb (isP.put ⟨v,by rw[HZ.o],by rw[<-a3.o];exact ag⟩) δ
    refine ai.cons rfl (fun y w' hS hD K hK=>?_) ?_
    ·obtain⟨v,C,G⟩:=isP.get (p:=fZ z w6.heap.size cs) (hD 3 Z)
     simp only[C]at hK⊢;go_simp;exact hK.out _ w' hS β (isP.put ⟨v,rfl,G⟩) δ
    refine ai.cons rfl (fun y w' hS hD K hK=>?_) ?_
    ·obtain⟨v,C,G⟩:=isP.get (p:=fZ z w6.heap.size cs) (hD 4 Z)
     simp only[C]at hK⊢;go_simp;exact hK.out _ w' hS β isV.put δ
    refine ai.cons rfl (fun y w' hS hD K hK=>?_) ?_
    ·obtain⟨v,C,G⟩:=isP.get (p:=fZ z w6.heap.size cs) (hD 4 Z)
     simp only[C]at hK⊢;go_simp;exact hK.out _ w' hS β (isP.put G) δ
    refine ai.cons rfl (fun y w' hS hD K hK=>?_) ?_
    ·simp only[isV.get (hD 5 Z)]at hK⊢
     go_simp;exact hK.out _ w' hS β isV.put δ
    exact ai.nil
   case hend =>
    intro y w' hS hR hF;have e5:=isV.get (hR 5 Z);obtain⟨vo,H⟩:∃v,y 6=v:=ξ;have ho:=isP.get (i:=6) (p:=fun u w=>aZ w w6.heap.size u cs) (hR 6 Z);rw[H]at ho;have e7:=isV.get (hR 7 Z);simp only[e5,H,e7];refine aJ (i:=8) (listed2:=τ 9 0) Z rfl Z (fun K hK=>?_);go_simp;refine hK.out _ _ ?_;clear hK K;refine aM Z ?_;obtain⟨w7,rfl⟩:∃w7,w7=w':=⟨_,rfl⟩;obtain⟨c7,c4,L7,bV,V7,c9⟩:=η6 ho (aC c3.o hS) (ae L6.o hS ρ) (au.o.to hS) (V6.o.to hS) (b0.o.below hS);obtain⟨ap,bF⟩:=η2 (MB.o.to L7.o) (cB.o.below L7.o);clear hS hR hF ho e5 e7 H
    go_upto_region 9 with fail
    refine aS (rest:=1) [isV 0 (.agg #[.int .i64 (F:Nat),.slice ba be bc]),isV 1 (.agg (aH ma mb mc ms)),isP 2 (fun u w=>∃(a:Option Addr) (n c:Nat) (aa:List ShV),u=.agg #[.int .i64 (F:Nat),.slice a n c]∧ShL w w7.heap.size (.slice a n c) aa (dm.map (ShD.move m2))),isV 3 (.agg (aH ma mb mc ms)),isV 4 (.agg (lw N2 E2)),isP 5 (fun u w=>aq w u Q),isP 6 (fun u w=>aq w u (aK m2 Q)),isP 7 (fZ z w7.heap.size cs),isP 8 (fZ z w7.heap.size cs),isV 9 (.int .i64 z),isP 10 (fun u w=>aZ w w7.heap.size u cs),isV 11 (.int .i64 z)] [] ?A4 (τ 12 1) Z [0,1,2,3,4,5,6,7,8,9,10,11] Z Z Z Z Z Z ?st ?hA ?hop ?hend
    case hA=>exact cO
    case st=>repeat (first|exact am.nil|refine am.cons isV.stab ?_|refine am.cons (isP.stab fZ.stab) ?_|refine am.cons (isP.stab mh) ?_|refine am.cons (isP.stab (fun _ _ _ h ⟨a,n,c,vs,e,hl⟩=>⟨a,n,c,vs,e,hl.below h⟩)) ?_|refine am.cons (isP.stab (fun _ _ _ h L=>L.below h)) ?_)
    case hop =>
     refine ai.cons rfl (fun y w' hS hD K hK=>?_) ?_
     ·obtain⟨c0,c1,-⟩:=(bV.o.to hS).two
      go_simp;exact hK.out _ w' hS β isV.put δ
     refine ai.cons rfl (fun y w' hS hD K hK=>?_) ?_
     ·refine bM ?_
      refine aX 60 _ rfl w4.heap.size 0 rfl (aH ma mb mc ms) _ (fun j hj=>(ap.o.to hS).whole j hj) underlying60 rfl ew ?_;exact hK.out _ w' hS β isV.put δ
     refine ai.cons rfl (fun y w' hS hD K hK=>?_) ?_
     ·simp only[isV.get (hD 0 Z),isV.get (hD 1 Z)]at hK⊢
      go_simp;refine(move_any (F:Nat) _ _ vs dm (bA (cA T')) (cj N' E') (sqn (bA (cA T))*(1+E % 6)) 200000 231928233984 (1+E' % 6) 128 J.heap.size w' (c9.o.below hS) HN.o an.o cy.o (by rw[bp.o];exact⟨ma,mb,mc,ms,rfl,bF.o.below hS⟩)).mono ?_
      rintro e A ⟨⟨v,aa,rfl,hl⟩,hb⟩;rw[bp.o]at hl;obtain⟨xa,xn,xc,rfl⟩:=eS hl.own;exact hK.out _ A (ae hS hb ρ) hb (isP.put ⟨xa,xn,xc,aa,rfl,hl.down hS.size⟩) δ
     refine ai.cons rfl (fun y w' hS hD K hK=>?_) ?_
     ·refine bM ?_
      refine aX 60 _ rfl w4.heap.size 0 rfl (aH ma mb mc ms) _ (fun j hj=>(ap.o.to hS).whole j hj) underlying60 rfl ew ?_;exact hK.out _ w' hS β isV.put δ
     refine ai.cons rfl (fun y w' hS hD K hK=>?_) ?_
     ·refine bM ?_
      refine aX 29 _ rfl (w.heap.size+2) 0 rfl (lw N2 E2) _ (fun j hj=>(V7.o.to hS).whole j hj) underlying29 rfl infoSm ?_;exact hK.out _ w' hS β isV.put δ
     refine ai.cons rfl (fun y w' hS hD K hK=>?_) ?_
     ·simp only[isV.get (hD 4 Z)]at hK⊢
      go_simp;refine(a5.o w' (show Below X.heap.size X w' from ae L7.o hS ρ)).mono ?_
      rintro e A ⟨⟨v,rfl,L⟩,hb⟩;exact hK.out v A (ae hS hb ρ) hb (isP.put L) δ
     refine ai.cons rfl (fun y w' hS hD K hK=>?_) ?_
     ·have e5:=isP.get (p:=fun u w=>aq w u Q) (hD 5 Z)
      simp only[isV.get (hD 3 Z)]at hK⊢;go_simp;refine(sS _ _ m2 Q 2 2 w' ⟨ma,mb,mc,ms,rfl,bF.o.below hS⟩ e5 cn.o cp.o a4.o I).mono ?_;rintro e A ⟨⟨v,rfl,L⟩,hb⟩;exact hK.out v A (ae hS hb ρ) hb (isP.put L) δ
     refine ai.cons rfl (fun y w' hS hD K hK=>?_) ?_
     ·have e6:=isP.get (p:=fun u w=>aq w u (aK m2 Q)) (hD 6 Z)
      obtain⟨xa,xn,xc,aa,C,hl⟩:=isP.get (p:=fun u w=>∃(a:Option Addr) (n c:Nat) (aa:List ShV),u=.agg #[.int .i64 (F:Nat),.slice a n c]∧ShL w w7.heap.size (.slice a n c) aa (dm.map (ShD.move m2))) (hD 2 Z);simp only[C]at hK⊢;go_simp;refine(pA (F:Nat) _ _ aa (dm.map (ShD.move m2)) (aK m2 Q) _ 3000000000 400771988324352 w7.heap.size w' hl (by rw[br.o];exact HN.o) cr.o cq.o I I e6 (cl.o.mono I)).mono ?_;rintro e A ⟨⟨v,rfl,L⟩,hb⟩;rw[cu.o,br.o]at L⊢;have ag:=bP L hS.size;exact hK.out _ A (ae hS hb ρ) hb (isP.put ⟨v,by rw[HZ.o],by rw[<-a3.o];exact ag⟩) δ
     refine ai.cons rfl (fun y w' hS hD K hK=>?_) ?_
     ·obtain⟨v,C,G⟩:=isP.get (p:=fZ z w7.heap.size cs) (hD 7 Z)
      simp only[C]at hK⊢;go_simp;exact hK.out _ w' hS β (isP.put ⟨v,rfl,G⟩) δ
     refine ai.cons rfl (fun y w' hS hD K hK=>?_) ?_
     ·obtain⟨v,C,G⟩:=isP.get (p:=fZ z w7.heap.size cs) (hD 8 Z)
      simp only[C]at hK⊢;go_simp;exact hK.out _ w' hS β isV.put δ
     refine ai.cons rfl (fun y w' hS hD K hK=>?_) ?_
     ·obtain⟨v,C,G⟩:=isP.get (p:=fZ z w7.heap.size cs) (hD 8 Z)
      simp only[C]at hK⊢;go_simp;exact hK.out _ w' hS β (isP.put G) δ
     refine ai.cons rfl (fun y w' hS hD K hK=>?_) ?_
     ·simp only[isV.get (hD 9 Z)]at hK⊢
      go_simp;exact hK.out _ w' hS β isV.put δ
     exact ai.nil
    case hend =>
     intro y w' hS hR hF;have e9:=isV.get (hR 9 Z);obtain⟨vo,H⟩:∃v,y 10=v:=ξ;have ho:=isP.get (i:=10) (p:=fun u w=>aZ w w7.heap.size u cs) (hR 10 Z);rw[H]at ho;have b5:=isV.get (hR 11 Z);simp only[e9,H,b5];refine aJ (i:=12) (listed2:=τ 13 0) Z rfl Z (fun K hK=>?_);go_simp;refine hK.out _ _ ?_;clear hK K;refine aM Z ?_;obtain⟨OA,c6,bI,L8⟩:=η4 ho (aC c4.o hS) (aC c7.o hS) (ae L7.o hS ρ);clear hS hR hF ho e9 b5 H
     go_wp2_with fail
     refine(qi _ _ cs _ _ _ c6.o bI.o bi.o).mono ?_;rintro e w9 ⟨rfl,aw⟩;obtain⟨c2,c8,L9⟩:=η3 (aC OA.o aw) (aC bI.o aw) (ae L8.o aw ρ);clear aw
     go_wp2_with fail
     refine(qi _ _ cs _ _ _ c2.o c8.o bi.o).mono ?_;rintro e dk ⟨rfl,a1⟩;have cV:=O (ae L9.o a1 ρ);clear a1
     go_wp2_with fail
     exact bodyPost_ret (results_tmp results3 _ _ _) rfl ⟨rfl,ae ci.o cV.o ρ⟩
end Go.Proofs.Υ
