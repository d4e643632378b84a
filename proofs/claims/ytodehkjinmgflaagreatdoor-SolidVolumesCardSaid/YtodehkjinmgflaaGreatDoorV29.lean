/- Lemmas. -/
import Derived.Test.YtodehkjinmgflaaGreatDoorV34
import Derived.Test.YtodehkjinmgflaaGreatDoorV35
set_option linter.all false
set_option maxHeartbeats 0
set_option maxRecDepth 99999
namespace Go.Proofs.Υ
open Go Go.RowKit Tryz
section
open V
theorem oN(P:Nat->V)(len i:Nat):qAt (cR P len) i=if i<len then ptQ (P i)else⟨0,0,0⟩:=by
 unfold qAt cR;rw[List.getD_eq_getElem?_getD,List.getElem?_map];by_cases h:i<len
 ·rw[List.getElem?_range h,if_pos h];rfl
 ·rw[List.getElem?_eq_none (by simp;omega),if_neg h];rfl
end
section
open V
theorem tk(a b:V):qsub (ptQ a) (ptQ b)=ptQ (a-b):=by
 unfold qsub ptQ;simp only[sub_x,sub_y,sub_z,Rat.intCast_sub]
theorem qcross_pt(a b:V):eL (ptQ a) (ptQ b)=ptQ (cross a b):=by
 unfold eL ptQ cross;simp only[Rat.intCast_sub,Rat.intCast_mul]
theorem pieceD_pt(t a b c:V):io (ptQ t) (ptQ a) (ptQ b) (ptQ c)=((dot (a-t) (cross (b-t) (c-t)):Int):Rat):=by
 unfold io;rw[tk,tk,tk,qcross_pt,oM]
theorem sumD_append(l m:List (Rat×Q3)):cK (l++m)=cK l+cK m:=by
 revert m;refine iX ?_ ?_
 ·rw[List.append_nil,show cK []=0 from rfl,Rat.add_zero]
 ·intro m x e
  rw[<-List.append_assoc,eC,e,eC,Rat.add_assoc]
theorem pG(f:Nat->Rat×Q3)(g:Nat->Int):∀n,(∀k,k<n->(f k).1=((g k:Int):Rat))->cK ((List.range n).map f)=((((List.range n).map g).sum:Int):Rat)
 | 0,_=>by simp[cK]
 | n+1,h=>by
  rw[List.range_succ,List.map_append,List.map_append,List.map_cons,List.map_nil,List.map_cons,List.map_nil,eC,pG f g n fun k e=>h k I,h n I,sum_append,Rat.intCast_add];simp
theorem rM(F:List Nat->List (Rat×Q3))(G:List Nat->Int):∀rs:List (List Nat),(∀r∈rs,cK (F r)=((G r:Int):Rat))->cK (rs.flatMap F)=(((rs.map G).sum:Int):Rat)
 | [],_=>by simp[cK]
 | r::rs,h=>by
  rw[List.flatMap_cons,sumD_append,h r (List.mem_cons_self ..),rM F G rs fun r hr=>h r (List.mem_cons_of_mem _ hr),List.map_cons,List.sum_cons,Rat.intCast_add]
variable {P : Nat → V} {N : Nat}
theorem jd{r:List Nat}{k:Nat}(h:k<r.length):r.getD k 0∈r:=by
 rw[show r.getD k 0=r[k] by simp[h]];exact List.getElem_mem h
theorem pieceOf_pts{r:List Nat}(A:0<N)(hr:∀i∈r,i<N){k:Nat}(C:k+2<r.length):
 iF (qAt (cR P N)) r k=(((tetD P 0 (r.getD 0 0) (r.getD (k+1) 0) (r.getD (k+2) 0):Int):Rat),jt (ptQ (P 0)) (ptQ (P (r.getD 0 0))) (ptQ (P (r.getD (k+1) 0))) (ptQ (P (r.getD (k+2) 0)))):=by
 have e:=hr _ (jd (show 0<r.length by omega));have j:=hr _ (jd (show k+1<r.length by omega));have u:=hr _ (jd C);unfold iF;rw[oN,oN,oN,oN,if_pos A,if_pos e,if_pos j,if_pos u,pieceD_pt]
 rfl
theorem sumD_pts{rs:List (List Nat)}(e:0<N)(hr:∀r∈rs,∀i∈r,i<N):cK (aD (qAt (cR P N)) rs)=(((rs.map (fan (tetD P 0))).sum:Int):Rat):=by
 unfold aD;refine rM _ _ rs fun r j=>?_
 unfold oH fan;refine pG _ _ _ fun k u=>?_
 rw[pieceOf_pts e (hr r j) I]
variable {fs : List RF} {E : Nat}
theorem RingsOk.fans(h:RingsOk P N fs E):∃ps,Polys P N ps/\∀g,((fs.map RF.r).map (fan g)).sum=fans P N ps g:=by
 obtain⟨u,e,j⟩:=h.polys;refine⟨_,j,fun g=>?_⟩;unfold Υ.fans;rw[List.map_map,List.map_map];refine congrArg List.sum (List.map_congr_left fun f i=>?_);simp only[Function.comp];rw[(e f i).2.2]
end
section
open V
theorem full4_four{P:Nat->V}{N:Nat}(h:eA P N):4<=N:=by
 obtain⟨i,j,k,m,hi,A,C,F,e⟩:=h;refine Classical.byContradiction fun hc=>e ?_
 have u:i=j\/i=k\/i=m\/j=k\/j=m\/k=m:=I;unfold tri
 rcases u with rfl|rfl|rfl|rfl|rfl|rfl<;>simp only[dot,cross,sub_x,sub_y,sub_z]<;>grind
theorem HullOk.valid{Q:Nat->V}{M:Nat}(h:HullOk Q M)(e:(dJ Q M).length<=16):Valid (ofL (dJ Q M)) (dJ Q M).length:=
 ⟨e,full4_four h.full,h.sorted,h.full,h.extr⟩
end
section
theorem VRow.open12{w:World}{base:Nat}{pa:Option Addr}{N cap:Nat}{qs:List Q3}{rs:List (RC×RC×RC)}(h:VRow w base (.slice pa N cap) qs rs)(i:Nat)(hi:i<qs.length):
 ∃(b:Nat) (n0 u A:RC),pa=some ⟨b,0,none⟩/\b<w.heap.size/\am w (.agg (ah n0 u A)) (qAt qs i)/\∀j,j<12->w.cell? ⟨b,i*12+j,none⟩=(ah n0 u A)[j]? := by
 have G:qs[i]?=some (qAt qs i):=by unfold qAt;simp[hi]
 obtain⟨b,C,⟨n0,u,A⟩,e,hb,-,-,hr,H,hc⟩:=h.at_ i _ G;cases e;exact⟨b,n0,u,A,rfl,hb,H,fun j F=>(hc j F).trans (Array.getElem?_toList (xs:=ah n0 u A))⟩
theorem fZ(r:RC):(aE r).all (·.oneCell')=true:=all_oneCell_toArray (by
 intro u e;simp at e
 rcases e with rfl|rfl|rfl|rfl<;>rfl)
def dY(qs:List Q3)(n:Q3):Nat->Rat×Rat
 | 0=>(0,0)
 | i+1=>(if i=0\/aT n (qAt qs i)<(dY qs n i).1 then aT n (qAt qs i)else(dY qs n i).1,if i=0\/(dY qs n i).2<aT n (qAt qs i)then aT n (qAt qs i)else(dY qs n i).2)
theorem oW{qs:List Q3}{n:Q3}{K:Nat}(h:∀i,i<qs.length->Bd K (aT n (qAt qs i)))(h0:1<=K):∀i,i<=qs.length->Bd K (dY qs n i).1/\Bd K (dY qs n i).2
 | 0,_=>⟨Bd.zero.mono h0,Bd.zero.mono h0⟩
 | i+1,hi=>by
  obtain⟨j,u⟩:=oW h h0 i I;have e:=h i I
  constructor
  ·show Bd K (if _ then _ else _);split
   ·exact e
   ·exact j
  ·show Bd K (if _ then _ else _);split
   ·exact e
   ·exact u
theorem cmpR_neg{x y:Rat}:dr x y<0↔x<y:=by
 unfold dr
 split
 ·rename_i h;exact⟨fun _=>h,fun _=>by omega⟩
 ·rename_i h;split<;>exact⟨fun e=>by omega,fun e=>absurd e h⟩
theorem cmpR_pos{x y:Rat}:0<dr x y↔y<x:=by
 unfold dr
 split
 ·rename_i h;exact⟨fun e=>by omega,fun e=>absurd e (Rat.not_lt.mpr (Rat.le_of_lt h))⟩
 ·rename_i h;split
  ·rename_i i;exact⟨fun _=>i,fun _=>by omega⟩
  ·rename_i i;exact⟨fun e=>by omega,fun e=>absurd e i⟩
def RetExt(w:World)(e:Ending)(lo hi:Rat):Prop:=∃lr hr:RC,e=.returned (.tuple #[.agg (aE lr),.agg (aE hr)])/\ak w lr.agg lo/\ak w hr.agg hi
structure ExtI (w:World) (base:Nat) (pa:Option Addr) (N cap:Nat) (qs:List Q3) (rs:List (RC × RC × RC)) (p0 p1 p2:RC) (n:Q3) (lr hr:RC) (lo hi:Rat) (wr:World):Prop where
 lb:Box wr (w.heap.size+2) (aE lr) 55
 hb:Box wr (w.heap.size+3) (aE hr) 55
 nb:Box wr (w.heap.size+1) (ah p0 p1 p2) 57
 l:ak wr lr.agg lo
 h:ak wr hr.agg hi
 v:VRow wr base (.slice pa N cap) qs rs
 n:am wr (.agg (ah p0 p1 p2)) n
 bel:Bl w wr
section
variable {w : World} {base : Nat} {pa : Option Addr} {N cap : Nat} {qs : List Q3} {rs : List (RC × RC × RC)} {p0 p1 p2 : RC} {n : Q3} {lr hr : RC} {lo hi : Rat} {wr wr' : World}
theorem ExtI.below(h:ExtI w base pa N cap qs rs p0 p1 p2 n lr hr lo hi wr)(hb:Bl wr wr'):ExtI w base pa N cap qs rs p0 p1 p2 n lr hr lo hi wr':=
 ⟨h.lb.to hb,h.hb.to hb,h.nb.to hb,h.l.below hb,h.h.below hb,h.v.below hb,h.n.below hb,ae h.bel hb ρ⟩
theorem VRow.put4{w:World}{base:Nat}{v:Value}{qs:List Q3}{rs:List (RC×RC×RC)}(h:VRow w base v qs rs){g:Nat}{r:RC}(hb:Box w g (aE r) 55)(i:RC):VRow (put4 w g 0 i) base v qs rs:=
 h.other (dX w g 0 i) (eH hb ν) (.inr (fun e=>aH h.own hb ν e.symm))
theorem ExtI.low(h:ExtI w base pa N cap qs rs p0 p1 p2 n lr hr lo hi wr){r:RC}{q:Rat}(e:ak wr r.agg q):ExtI w base pa N cap qs rs p0 p1 p2 n r hr q hi (put4 wr (w.heap.size+2) 0 r):=
 ⟨h.lb.s4 r,h.hb.oput4 I 0 r,h.nb.oput4 I 0 r,e.put4 h.lb.at1 r,h.h.put4 h.lb.at1 r,h.v.put4 h.lb r,h.n.put4 h.lb.at1 r,bj h.bel I 0 r⟩
theorem ExtI.high(h:ExtI w base pa N cap qs rs p0 p1 p2 n lr hr lo hi wr){r:RC}{q:Rat}(e:ak wr r.agg q):ExtI w base pa N cap qs rs p0 p1 p2 n lr r lo q (put4 wr (w.heap.size+3) 0 r):=
 ⟨h.lb.oput4 I 0 r,h.hb.s4 r,h.nb.oput4 I 0 r,h.l.put4 h.hb.at1 r,e.put4 h.hb.at1 r,h.v.put4 h.hb r,h.n.put4 h.hb.at1 r,bj h.bel I 0 r⟩
end
theorem ret_box22{P:Program}{L:Func}{R:Ending->World->Prop}{a:Act}{w:World}{p q:Tmp}{ty j:TypeId}(h:L.results=#[.cell p ty,.cell q j])(g g':Nat){cs i:Array Value}{t Q:TypeId}(X:Box w g cs t)(F:Box w g' i Q)(d u:TypeDesc)(Y:a.tmps.getD p undef=.pointer (some ⟨g,0,.none⟩))(H:a.tmps.getD q undef=.pointer (some ⟨g',0,.none⟩))(hu:P.underlying ty=some d)(J:P.underlying j=some u)(W:(match d with|.struct _|.array _ _=>true|_=>false)=true)(A:(match u with|.struct _|.array _ _=>true|_=>false)=true)(hi:(P.info? ty).map (·.size)=some cs.size)(G:(P.info? j).map (·.size)=some i.size)(C:a.defers=[])(hR:R (.returned (.tuple #[.agg cs,.agg i])) w):
 bodyPost P L R .ret a w:=by
 refine bodyPost_ret ?_ C hR;have e:a.tmps[p]?.getD undef=.pointer (some ⟨g,0,none⟩):=by simpa using Y
 have U:a.tmps[q]?.getD undef=.pointer (some ⟨g',0,none⟩):=by simpa using H
 simp[results,h,e,U,asAddr,run_loadVar_row w g t ty cs _ d X hu W hi,run_loadVar_row w g' Q j i _ u F J A G]
end
theorem qB(v0 v1 v2 vn:Value)(qs:List Q3)(rs:List (RC×RC×RC))(n:Q3)(base k l:Nat)(w:World)(hV:VRow w base v0 qs rs)(hk:∀i,i<qs.length->BdV k (qAt qs i))(hn:am w vn n)(hl:BdV l n)(b6:k+l<=1000)(ap:qs.length<=262144):
 Calls prog 62 #[.agg #[v0,v1,v2],vn] w fun e w'=>RetExt w' e (dY qs n qs.length).1 (dY qs n qs.length).2/\Bl w w':=by
 obtain⟨p0,p1,p2,rfl,a7,a8,a9⟩:=hn;have be:am w (.agg (ah p0 p1 p2)) n:=⟨p0,p1,p2,rfl,a7,a8,a9⟩;obtain⟨W,hW,b1,b2,b3,b4,hB,hS⟩:=nC w #[v0,v1,v2] (ah p0 p1 p2) (aE RC.zero) (aE RC.zero) 86 57 55 55;obtain⟨bs,HV,HB,bI,B2,B3,B4,bk,HK⟩:=η9 (be.below hB) (hV.below hB) hB hS b2 b3 b4 hl hk;have au:=O (fun i hi=>Bd.dot hl (hk i hi));obtain⟨x0,x1,x2,-⟩:=b1.three;obtain⟨N,hN⟩:=χ qs.length;have b9:N<=262144:=by rw[<-hN];exact ap
 have a1:=O (oW au.o I);rw[hN]at HK au a1⊢;have br:=O hN;obtain⟨pa,cap,hv⟩:∃pa cap,v0=.slice pa N cap:=by
  obtain⟨_,⟨rfl,h0⟩|⟨g,c,_,rfl,_⟩⟩:=hV.own
  ·exact⟨none,0,by rw[<-hN,<-hV.len,h0]⟩
  ·exact⟨_,_,by rw[<-hN,<-hV.len]⟩
 clear hV hB hS b1 b2 b3 b4 hk hl a7 a8 a9 hN be ap;subst hv;unfold ah at hW⊢;simp only[aE,RC.zero]at hW
 go_enter func62,ntmps62
 go_wp2_with fail
 go_loopw [12] (fun iv wr=>∃i,i<=N/\iv=.int .i64 (i:Nat)/\∃lr hr,Hid (ExtI w base pa N cap qs rs p0 p1 p2 n lr hr (dY qs n i).1 (dY qs n i).2 wr)/\Hid (Bl W W)) (fun iv _=>N-(intOf iv).toNat)
 case atStart=>exact⟨0,Nat.zero_le _,rfl,RC.zero,RC.zero,⟨B3.o,B4.o,B2.o,ak.zero _,ak.zero _,HV.o,bs.o,HB.o⟩,Below.refl _ _⟩
 case round =>
  obtain⟨i,hi,rfl,lr,hr,HX,-⟩:=hrel;obtain⟨wk,rfl⟩:=φ wr;by_cases h0:i=N
  ·have hn:¬ (i:Int)<(N:Int):=I
   have H0:=O h0;clear h0;obtain⟨⟨F,G,H,J⟩,L,Q,R,U⟩:=HX.o.lb.at1;obtain⟨⟨X,Y,z2,z3⟩,z4,z5,z6,z7⟩:=HX.o.hb.at1
   go_wp2_with fail
   go_region;change Exit.then _ _ _ _ (World.drew (put4 (put4 wk (w.heap.size+2) 0 lr) (w.heap.size+3) 0 hr))
   have X1:=O (HX.o.low HX.o.l);have X2:=O ((X1.o.high X1.o.h).below β.drew);clear F G H J L Q R U X Y z2 z3 z4 z5 z6 z7;generalize World.drew (put4 (put4 wk (w.heap.size+2) 0 lr) (w.heap.size+3) 0 hr)=w9 at *;go_wp2;exact ret_box22 results62 (w.heap.size+2) (w.heap.size+3) X2.o.lb X2.o.hb _ _ rfl rfl underlying55 underlying55 rfl rfl infoR4 infoR4 rfl
    ⟨⟨lr,hr,rfl,by rw[<-H0.o];exact X2.o.l,by rw[<-H0.o];exact X2.o.h⟩,X2.o.bel⟩
  ·have b7:(i:Int)<(N:Int):=I
   have b0:i<N:=I;obtain⟨bV,n0,n1,n2,e,hb,bf,a4⟩:=HX.o.v.open12 i (ψ br.o);cases e;have bp:=O a4;clear a4
   go_upto_region 4 with(first|refine aj rfl _ _ rfl bV (i*12) rfl (ah n0 n1 n2) _ (fun j hj=>bp.o j hj) underlying57 rfl cG ?_|refine aA rfl _ _ _ rfl _ (ah n0 n1 n2) rfl rfl cG rfl (bC ..) ?_)
   obtain⟨Wc,a3,b5,ay,bu⟩:=aB wk (ah n0 n1 n2) 57;obtain⟨XC,bt,bm⟩:=η3 (HX.o.below ay) (bf.below ay) (Box.from0 b5 12);have bl:=O (Box.from0 XC.o.nb 12);rw[a3];clear bf ay bu b5 a3
   go_upto_region 5 with(first
    | refine aj rfl _ _ rfl (w.heap.size+1) 0 rfl (ah p0 p1 p2) _ (fun j hj=>bl.o j hj) underlying57 rfl cG ?_
    | refine aj rfl _ _ rfl wk.heap.size 0 rfl (ah n0 n1 n2) _ (fun j hj=>bm.o j hj) underlying57 rfl cG ?_
    | (refine(ji _ _ n (qAt qs i) l k Wc XC.o.n bt.o bk.o (HK.o i I) I).mono ?_;rintro e w5 ⟨⟨v5,rfl,bF⟩,az⟩;obtain⟨A,rfl,ba⟩:=bF.rc)
    | refine aA rfl _ _ _ rfl _ (aE A) rfl rfl infoR4 rfl (fZ A) ?_)
   obtain⟨w6,bg,b8,a0,bz⟩:=aB w5 (aE A) 55;obtain⟨X6,D6,B8⟩:=η3 ((XC.o.below az).below a0) (ba.below a0) b8;have bc:w.heap.size+3<w5.heap.size:=by have:=(XC.o.below az).hb.lt;omega
   obtain⟨a2,ag,av⟩:=η3 bc (a1.o i I) (au.o i I);rw[bg];clear az ba a0 bz bg b8 bc;obtain⟨d,hd⟩:=χ (aT n (qAt qs i));rw[hd]at D6 av;have HD:=O hd;have ad:=O (show(dY qs n (i+1)).1=if i=0\/d<(dY qs n i).1 then d else(dY qs n i).1 from by rw[<-hd];rfl);have af:=O (show(dY qs n (i+1)).2=if i=0\/(dY qs n i).2<d then d else(dY qs n i).2 from by rw[<-hd];rfl);obtain⟨lo,a6⟩:=χ ((dY qs n i).1);obtain⟨hh,a5⟩:=χ ((dY qs n i).2);rw[a6]at X6 ag ad;rw[a5]at X6 ag af;clear hd a6 a5;by_cases ab:i=0
   ·have bv:((i:Int) == 0)=true:=by rw[ab];rfl
    have aa:=O ab;clear ab;obtain⟨⟨F,G,H,J⟩,L,Q,R,U⟩:=X6.o.lb.at1;obtain⟨⟨X,Y,z2,z3⟩,z4,z5,z6,z7⟩:=X6.o.hb.at1;obtain⟨c0,c1,c2,c3⟩:=B8.o.at1.1
    go_upto_region 7 with fail
    change Code.wp _ _ _ _ (put4 w6 (w.heap.size+2) 0 A);obtain⟨X7,D7,B9⟩:=η3 (X6.o.low D6.o) (D6.o.put4 X6.o.lb.at1 A) (B8.o.oput4 (g':=w.heap.size+2) (ψ a2.o) 0 A);clear F G H J L Q R U X Y z2 z3 z4 z5 z6 z7 c0 c1 c2 c3;generalize put4 w6 (w.heap.size+2) 0 A=w7 at *;obtain⟨⟨F,G,H,J⟩,L,Q,R,U⟩:=X7.o.lb.at1;obtain⟨⟨X,Y,z2,z3⟩,z4,z5,z6,z7⟩:=X7.o.hb.at1;obtain⟨c0,c1,c2,c3⟩:=B9.o.at1.1
    go_wp2_with fail
    go_round
    case rel=>exact⟨i+1,by omega,rfl,A,A,by rw[ad.o,af.o,if_pos (.inl aa.o),if_pos (.inl aa.o)];exact X7.o.high D7.o,Below.refl _ _⟩
    case measure=>exact μ
   ·have bv:((i:Int) == 0)=false:=beq_eq_false_iff_ne.mpr I
    have aa:=O ab;clear ab;obtain⟨⟨F,G,H,J⟩,L,Q,R,U⟩:=X6.o.lb.at1;obtain⟨⟨X,Y,z2,z3⟩,z4,z5,z6,z7⟩:=X6.o.hb.at1;obtain⟨c0,c1,c2,c3⟩:=B8.o.at1.1
    go_wp2_with fail
    refine(cj (.agg (aE A)) (.agg (aE lr)) d lo (3*(l+k+1)+1) (3*(l+k+1)+1) w6 D6.o X6.o.l av.o ag.o.1 I).mono ?_;rintro e w7 ⟨rfl,an⟩;obtain⟨X7,D7,B9⟩:=η3 (X6.o.below an) (D6.o.below an) (B8.o.to an);have ca:w.heap.size+3<w5.heap.size:=a2.o;clear F G H J L Q R U X Y z2 z3 z4 z5 z6 z7 c0 c1 c2 c3 an;obtain⟨z,hz⟩:=χ (dr d lo);have HZ:=O (show z<0↔d<lo from by rw[<-hz];exact cmpR_neg);rw[hz];clear hz;obtain⟨⟨F,G,H,J⟩,L,Q,R,U⟩:=X7.o.lb.at1;obtain⟨⟨X,Y,z2,z3⟩,z4,z5,z6,z7⟩:=X7.o.hb.at1;obtain⟨c0,c1,c2,c3⟩:=B9.o.at1.1;by_cases C:z<0
    case' pos =>
     have u:=O C
     go_upto_region 7 with fail
     change Code.wp _ _ _ _ (put4 w7 (w.heap.size+2) 0 A);obtain⟨X8,D8,ac⟩:=η3 (X7.o.low D7.o) (D7.o.put4 X7.o.lb.at1 A) (B9.o.oput4 (g':=w.heap.size+2) I 0 A);have aw:=O (show(dY qs n (i+1)).1=d from by rw[ad.o,if_pos (.inr (HZ.o.mp u.o))]);clear F G H J L Q R U X Y z2 z3 z4 z5 z6 z7 c0 c1 c2 c3 C u;generalize put4 w7 (w.heap.size+2) 0 A=w8 at *
    case' neg =>
     have u:=O C
     go_upto_region 7 with fail
     obtain⟨X8,D8,ac⟩:=η3 X7.o D7.o B9.o;have aw:=O (show(dY qs n (i+1)).1=lo from by
      rw[ad.o,if_neg (by
       rintro(h|h)
       ·exact aa.o h
       ·exact absurd (HZ.o.mpr h) (ψ u.o))])
     clear F G H J L Q R U X Y z2 z3 z4 z5 z6 z7 c0 c1 c2 c3 C u;generalize w7=w8 at *
    all_goals
     clear X7 D7 B9 HZ;obtain⟨⟨F,G,H,J⟩,L,Q,R,U⟩:=X8.o.lb.at1;obtain⟨⟨X,Y,z2,z3⟩,z4,z5,z6,z7⟩:=X8.o.hb.at1;obtain⟨c0,c1,c2,c3⟩:=ac.o.at1.1
     go_wp2_with fail
     refine(cj (.agg (aE A)) (.agg (aE hr)) d hh (3*(l+k+1)+1) (3*(l+k+1)+1) w8 D8.o X8.o.h av.o ag.o.2 I).mono ?_;rintro e w9 ⟨rfl,ao⟩;obtain⟨X9,D9,bi⟩:=η3 (X8.o.below ao) (D8.o.below ao) (ac.o.to ao);clear F G H J L Q R U X Y z2 z3 z4 z5 z6 z7 c0 c1 c2 c3 ao;obtain⟨z,hz⟩:=χ (dr d hh);have HZ:=O (show 0<z↔hh<d from by rw[<-hz];exact cmpR_pos);rw[hz];clear hz;obtain⟨⟨F,G,H,J⟩,L,Q,R,U⟩:=X9.o.lb.at1;obtain⟨⟨X,Y,z2,z3⟩,z4,z5,z6,z7⟩:=X9.o.hb.at1;obtain⟨c0,c1,c2,c3⟩:=bi.o.at1.1;by_cases C:0<z
     ·have u:=O C
      have ar:=O (show(dY qs n (i+1)).2=d from by rw[af.o,if_pos (.inr (HZ.o.mp u.o))])
      go_wp2_with fail
      go_round
      case rel=>exact⟨i+1,by omega,rfl,_,A,by rw[aw.o,ar.o];exact X9.o.high D9.o,Below.refl _ _⟩
      case measure=>exact μ
     ·have u:=O C
      have ar:=O (show(dY qs n (i+1)).2=hh from by
       rw[af.o,if_neg (by
        rintro(h|h)
        ·exact aa.o h
        ·exact absurd (HZ.o.mpr h) (ψ u.o))])
      go_wp2_with fail
      go_round
      case rel=>exact⟨i+1,by omega,rfl,_,hr,by rw[aw.o,ar.o];exact X9.o,Below.refl _ _⟩
      case measure=>exact μ
section
open V
variable {P : Nat → V} {N E : Nat} {fs : List RF} {p : Q3}
end
section
open V
variable {P : Nat → V} {N E : Nat} {fs : List RF}
theorem RingsOk.few(h:RingsOk P N fs E)(i:N<=16):fs.length<=65536:=by
 have e:=fz (fs.map RF.o) (List.range 65536) h.nodup (fun x A=>by
  obtain⟨f,j,rfl⟩:=List.mem_map.mp A;obtain⟨b,-,u,-⟩:=h.ok f j;rw[List.mem_range,u];exact Nat.lt_of_lt_of_le (mr _ _) (Nat.le_trans (Nat.pow_le_pow_right (n:=2) I i) ν))
 simpa using e
theorem RingsOk.rows(h:RingsOk P N fs E)(hS:Sorted P N):∀f∈fs,f.r≠[]/\∀i∈f.r,i<N:=fun f e=>by
 obtain⟨b,hF,-,hr⟩:=h.ok f e;rw[hr];exact⟨(hF.ring_hd hS).2,fun i hi=>(aG.mp ((hF.ring_mem hS i).mp hi).1).1⟩
theorem RingsOk.bd(h:RingsOk P N fs E)(hS:Sorted P N)(u:∀i,i<N->LeV 4096 (P i)):∀g∈fs.map (fj P),BdV 2 g.1/\Bd 2 g.2:=fun g F=>by
 obtain⟨f,e,rfl⟩:=List.mem_map.mp F;obtain⟨b,hF,-,hr,-⟩:=h.pl hS e;obtain⟨A,-⟩:=h.face hS e;have j:=pV (tK u hF) I;have G:f.r.headD 0<N:=by rw[hr];exact(Face.ring_hd hS hF).1
 rw[A];refine⟨jG (j.mono I),?_⟩;have C:=j.dot (u _ G);show Bd 2 ((dot (aR f.n) (P (f.r.headD 0)):Int):Rat);refine Bd.int _ ?_;unfold Le at C;unfold B;omega
theorem centre_bd{w:World}{A C:Value}{qs:List Q3}{e:List FR}{rs:List (List Nat)}{d M:Nat}(hS:SolidF w A C qs e rs d M):BdV 18 (qscale (1 / (4*cK (aD (qAt qs) rs))) (dC (aD (qAt qs) rs))):=by
 obtain⟨i,j,-⟩:=th hS.dpos hS.dmax hS.mmax hS.frac (by rw[hS.sol.len];exact hS.sol.max) (fun r hr=>(hS.sol.ring r hr).1) (aD (qAt qs) rs) ρ (fun x u=>u);have:=BdV.qscale (bd4.mul i).inv j;exact this
end
end Go.Proofs.Υ
