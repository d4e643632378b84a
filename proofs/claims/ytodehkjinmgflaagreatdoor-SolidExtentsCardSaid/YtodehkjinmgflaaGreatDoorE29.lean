/- Lemmas. -/
import Derived.Test.YtodehkjinmgflaaGreatDoorE34
import Derived.Test.YtodehkjinmgflaaGreatDoorE35
set_option linter.all false
set_option maxHeartbeats 0
set_option maxRecDepth 99999
namespace Go.Proofs.Υ
open Go Go.RowKit Tryz
section
open V
end
section
open V
variable {P : Nat → V} {N : Nat}
theorem qM{r:List Nat}{k:Nat}(h:k<r.length):r.getD k 0∈r:=by
 rw[show r.getD k 0=r[k] by simp[h]];exact List.getElem_mem h
variable {fs : List RF} {E : Nat}
end
section
open V
theorem full4_four{P:Nat->V}{N:Nat}(h:eE P N):4<=N:=by
 obtain⟨i,j,k,m,hi,A,C,F,e⟩:=h;refine Classical.byContradiction fun hc=>e ?_
 have u:i=j\/i=k\/i=m\/j=k\/j=m\/k=m:=I;unfold tri
 rcases u with rfl|rfl|rfl|rfl|rfl|rfl<;>simp only[dot,cross,sub_x,sub_y,sub_z]<;>grind
theorem HullOk.valid{Q:Nat->V}{M:Nat}(h:HullOk Q M)(e:(dI Q M).length<=16):Valid (ofL (dI Q M)) (dI Q M).length:=
 ⟨e,full4_four h.full,h.sorted,h.full,h.extr⟩
end
section
theorem VRow.open12{w:World}{base:Nat}{pa:Option Addr}{N cap:Nat}{qs:List Q3}{rs:List (RC×RC×RC)}(h:VRow w base (.slice pa N cap) qs rs)(i:Nat)(hi:i<qs.length):
 ∃(b:Nat) (n0 u A:RC),pa=some ⟨b,0,none⟩/\b<w.heap.size/\aA w (.agg (ah n0 u A)) (qAt qs i)/\∀j,j<12->w.cell? ⟨b,i*12+j,none⟩=(ah n0 u A)[j]? := by
 have G:qs[i]?=some (qAt qs i):=by unfold qAt;simp[hi]
 obtain⟨b,C,⟨n0,u,A⟩,e,hb,-,-,hr,H,hc⟩:=h.at_ i _ G;cases e;exact⟨b,n0,u,A,rfl,hb,H,fun j F=>(hc j F).trans (Array.getElem?_toList (xs:=ah n0 u A))⟩
theorem dn(r:RC):(aq r).all (·.oneCell')=true:=all_oneCell_toArray (by
 intro u e;simp at e
 rcases e with rfl|rfl|rfl|rfl<;>rfl)
def cN(qs:List Q3)(n:Q3):Nat->Rat×Rat
 | 0=>(0,0)
 | i+1=>(if i=0\/aX n (qAt qs i)<(cN qs n i).1 then aX n (qAt qs i)else(cN qs n i).1,if i=0\/(cN qs n i).2<aX n (qAt qs i)then aX n (qAt qs i)else(cN qs n i).2)
theorem mN{qs:List Q3}{n:Q3}{K:Nat}(h:∀i,i<qs.length->Bd K (aX n (qAt qs i)))(h0:1<=K):∀i,i<=qs.length->Bd K (cN qs n i).1/\Bd K (cN qs n i).2
 | 0,_=>⟨Bd.zero.mono h0,Bd.zero.mono h0⟩
 | i+1,hi=>by
  obtain⟨j,u⟩:=mN h h0 i I;have e:=h i I
  constructor
  ·show Bd K (if _ then _ else _);split
   ·exact e
   ·exact j
  ·show Bd K (if _ then _ else _);split
   ·exact e
   ·exact u
theorem rk{x y:Rat}:dc x y<0↔x<y:=by
 unfold dc
 split
 ·rename_i h;exact⟨fun _=>h,fun _=>by omega⟩
 ·rename_i h;split<;>exact⟨fun e=>by omega,fun e=>absurd e h⟩
theorem rj{x y:Rat}:0<dc x y↔y<x:=by
 unfold dc
 split
 ·rename_i h;exact⟨fun e=>by omega,fun e=>absurd e (Rat.not_lt.mpr (Rat.le_of_lt h))⟩
 ·rename_i h;split
  ·rename_i j;exact⟨fun _=>j,fun _=>by omega⟩
  ·rename_i j;exact⟨fun e=>by omega,fun e=>absurd e j⟩
def uF(w:World)(e:Ending)(lo hi:Rat):Prop:=∃lr hr:RC,e=.returned (.tuple #[.agg (aq lr),.agg (aq hr)])/\aj w lr.agg lo/\aj w hr.agg hi
structure ExtI (w:World) (base:Nat) (pa:Option Addr) (N cap:Nat) (qs:List Q3) (rs:List (RC × RC × RC)) (p0 p1 p2:RC) (n:Q3) (lr hr:RC) (lo hi:Rat) (wr:World):Prop where
 lb:Box wr (w.heap.size+2) (aq lr) 55
 hb:Box wr (w.heap.size+3) (aq hr) 55
 nb:Box wr (w.heap.size+1) (ah p0 p1 p2) 57
 l:aj wr lr.agg lo
 h:aj wr hr.agg hi
 v:VRow wr base (.slice pa N cap) qs rs
 n:aA wr (.agg (ah p0 p1 p2)) n
 bel:Bl w wr
section
variable {w : World} {base : Nat} {pa : Option Addr} {N cap : Nat} {qs : List Q3} {rs : List (RC × RC × RC)} {p0 p1 p2 : RC} {n : Q3} {lr hr : RC} {lo hi : Rat} {wr wr' : World}
theorem ExtI.below(h:ExtI w base pa N cap qs rs p0 p1 p2 n lr hr lo hi wr)(hb:Bl wr wr'):ExtI w base pa N cap qs rs p0 p1 p2 n lr hr lo hi wr':=
 ⟨h.lb.to hb,h.hb.to hb,h.nb.to hb,h.l.below hb,h.h.below hb,h.v.below hb,h.n.below hb,ae h.bel hb ρ⟩
theorem VRow.put4{w:World}{base:Nat}{v:Value}{qs:List Q3}{rs:List (RC×RC×RC)}(h:VRow w base v qs rs){g:Nat}{r:RC}(hb:Box w g (aq r) 55)(j:RC):VRow (put4 w g 0 j) base v qs rs:=
 h.other (dM w g 0 j) (eL hb ν) (.inr (fun e=>aJ h.own hb ν e.symm))
theorem ExtI.low(h:ExtI w base pa N cap qs rs p0 p1 p2 n lr hr lo hi wr){r:RC}{q:Rat}(e:aj wr r.agg q):ExtI w base pa N cap qs rs p0 p1 p2 n r hr q hi (put4 wr (w.heap.size+2) 0 r):=
 ⟨h.lb.s4 r,h.hb.oput4 I 0 r,h.nb.oput4 I 0 r,e.put4 h.lb.at1 r,h.h.put4 h.lb.at1 r,h.v.put4 h.lb r,h.n.put4 h.lb.at1 r,aN h.bel I 0 r⟩
theorem ExtI.high(h:ExtI w base pa N cap qs rs p0 p1 p2 n lr hr lo hi wr){r:RC}{q:Rat}(e:aj wr r.agg q):ExtI w base pa N cap qs rs p0 p1 p2 n lr r lo q (put4 wr (w.heap.size+3) 0 r):=
 ⟨h.lb.oput4 I 0 r,h.hb.s4 r,h.nb.oput4 I 0 r,h.l.put4 h.hb.at1 r,e.put4 h.hb.at1 r,h.v.put4 h.hb r,h.n.put4 h.hb.at1 r,aN h.bel I 0 r⟩
end
theorem kQ{P:Program}{Q:Func}{R:Ending->World->Prop}{a:Act}{w:World}{p q:Tmp}{ty u:TypeId}(h:Q.results=#[.cell p ty,.cell q u])(g g':Nat){cs j:Array Value}{t U:TypeId}(Y:Box w g cs t)(G:Box w g' j U)(d A:TypeDesc)(hp:a.tmps.getD p undef=.pointer (some ⟨g,0,.none⟩))(J:a.tmps.getD q undef=.pointer (some ⟨g',0,.none⟩))(hu:P.underlying ty=some d)(L:P.underlying u=some A)(X:(match d with|.struct _|.array _ _=>true|_=>false)=true)(C:(match A with|.struct _|.array _ _=>true|_=>false)=true)(hi:(P.info? ty).map (·.size)=some cs.size)(H:(P.info? u).map (·.size)=some j.size)(F:a.defers=[])(hR:R (.returned (.tuple #[.agg cs,.agg j])) w):
 bodyPost P Q R .ret a w:=by
 refine bodyPost_ret ?_ F hR;have e:a.tmps[p]?.getD undef=.pointer (some ⟨g,0,none⟩):=by simpa using hp
 have W:a.tmps[q]?.getD undef=.pointer (some ⟨g',0,none⟩):=by simpa using J
 simp[results,h,e,W,asAddr,run_loadVar_row w g t ty cs _ d Y hu X hi,run_loadVar_row w g' U u j _ A G L C H]
end
theorem lT(v0 v1 v2 vn:Value)(qs:List Q3)(rs:List (RC×RC×RC))(n:Q3)(base k l:Nat)(w:World)(hV:VRow w base v0 qs rs)(hk:∀i,i<qs.length->BdV k (qAt qs i))(hn:aA w vn n)(hl:BdV l n)(b6:k+l<=1000)(ap:qs.length<=262144):
 Calls prog 62 #[.agg #[v0,v1,v2],vn] w fun e w'=>uF w' e (cN qs n qs.length).1 (cN qs n qs.length).2/\Bl w w':=by
 obtain⟨p0,p1,p2,rfl,a7,a8,a9⟩:=hn;have be:aA w (.agg (ah p0 p1 p2)) n:=⟨p0,p1,p2,rfl,a7,a8,a9⟩;obtain⟨W,hW,b1,b2,b3,b4,hB,hS⟩:=kI w #[v0,v1,v2] (ah p0 p1 p2) (aq RC.zero) (aq RC.zero) 86 57 55 55;obtain⟨bs,HV,HB,bI,B2,B3,B4,bk,HK⟩:=η9 (be.below hB) (hV.below hB) hB hS b2 b3 b4 hl hk;have au:=O (fun i hi=>Bd.dot hl (hk i hi));obtain⟨x0,x1,x2,-⟩:=b1.three;obtain⟨N,hN⟩:=χ qs.length;have b9:N<=262144:=by rw[<-hN];exact ap
 have a1:=O (mN au.o I);rw[hN]at HK au a1⊢;have br:=O hN;obtain⟨pa,cap,hv⟩:∃pa cap,v0=.slice pa N cap:=by
  obtain⟨_,⟨rfl,h0⟩|⟨g,c,_,rfl,_⟩⟩:=hV.own
  ·exact⟨none,0,by rw[<-hN,<-hV.len,h0]⟩
  ·exact⟨_,_,by rw[<-hN,<-hV.len]⟩
 clear hV hB hS b1 b2 b3 b4 hk hl a7 a8 a9 hN be ap;subst hv;unfold ah at hW⊢;simp only[aq,RC.zero]at hW
 go_enter func62,ntmps62
 go_wp2_with fail
 go_loopw [12] (fun iv wr=>∃i,i<=N/\iv=.int .i64 (i:Nat)/\∃lr hr,Hid (ExtI w base pa N cap qs rs p0 p1 p2 n lr hr (cN qs n i).1 (cN qs n i).2 wr)/\Hid (Bl W W)) (fun iv _=>N-(intOf iv).toNat)
 case atStart=>exact⟨0,Nat.zero_le _,rfl,RC.zero,RC.zero,⟨B3.o,B4.o,B2.o,aj.zero _,aj.zero _,HV.o,bs.o,HB.o⟩,Below.refl _ _⟩
 case round =>
  obtain⟨i,hi,rfl,lr,hr,HX,-⟩:=hrel;obtain⟨wk,rfl⟩:=φ wr;by_cases h0:i=N
  ·have hn:¬ (i:Int)<(N:Int):=I
   have H0:=O h0;clear h0;obtain⟨⟨F,G,H,J⟩,L,Q,R,U⟩:=HX.o.lb.at1;obtain⟨⟨X,Y,z2,z3⟩,z4,z5,z6,z7⟩:=HX.o.hb.at1
   go_wp2_with fail
   go_region;change Exit.then _ _ _ _ (World.drew (put4 (put4 wk (w.heap.size+2) 0 lr) (w.heap.size+3) 0 hr))
   have X1:=O (HX.o.low HX.o.l);have X2:=O ((X1.o.high X1.o.h).below β.drew);clear F G H J L Q R U X Y z2 z3 z4 z5 z6 z7;generalize World.drew (put4 (put4 wk (w.heap.size+2) 0 lr) (w.heap.size+3) 0 hr)=w9 at *;go_wp2;exact kQ results62 (w.heap.size+2) (w.heap.size+3) X2.o.lb X2.o.hb _ _ rfl rfl underlying55 underlying55 rfl rfl lR lR rfl
    ⟨⟨lr,hr,rfl,by rw[<-H0.o];exact X2.o.l,by rw[<-H0.o];exact X2.o.h⟩,X2.o.bel⟩
  ·have b7:(i:Int)<(N:Int):=I
   have b0:i<N:=I;obtain⟨bV,n0,n1,n2,e,hb,bf,a4⟩:=HX.o.v.open12 i (ψ br.o);cases e;have bp:=O a4;clear a4
   go_upto_region 4 with(first|refine am rfl _ _ rfl bV (i*12) rfl (ah n0 n1 n2) _ (fun j hj=>bp.o j hj) underlying57 rfl dX ?_|refine aD rfl _ _ _ rfl _ (ah n0 n1 n2) rfl rfl dX rfl (bq ..) ?_)
   obtain⟨Wc,a3,b5,ay,bu⟩:=aB wk (ah n0 n1 n2) 57;obtain⟨XC,bt,bm⟩:=η3 (HX.o.below ay) (bf.below ay) (Box.from0 b5 12);have bl:=O (Box.from0 XC.o.nb 12);rw[a3];clear bf ay bu b5 a3
   go_upto_region 5 with(first
    | refine am rfl _ _ rfl (w.heap.size+1) 0 rfl (ah p0 p1 p2) _ (fun j hj=>bl.o j hj) underlying57 rfl dX ?_
    | refine am rfl _ _ rfl wk.heap.size 0 rfl (ah n0 n1 n2) _ (fun j hj=>bm.o j hj) underlying57 rfl dX ?_
    | (refine(iG _ _ n (qAt qs i) l k Wc XC.o.n bt.o bk.o (HK.o i I) I).mono ?_;rintro e w5 ⟨⟨v5,rfl,bF⟩,az⟩;obtain⟨A,rfl,ba⟩:=bF.rc)
    | refine aD rfl _ _ _ rfl _ (aq A) rfl rfl lR rfl (dn A) ?_)
   obtain⟨w6,bg,b8,a0,bz⟩:=aB w5 (aq A) 55;obtain⟨X6,D6,B8⟩:=η3 ((XC.o.below az).below a0) (ba.below a0) b8;have bc:w.heap.size+3<w5.heap.size:=by have:=(XC.o.below az).hb.lt;omega
   obtain⟨a2,ag,av⟩:=η3 bc (a1.o i I) (au.o i I);rw[bg];clear az ba a0 bz bg b8 bc;obtain⟨d,hd⟩:=χ (aX n (qAt qs i));rw[hd]at D6 av;have HD:=O hd;have ad:=O (show(cN qs n (i+1)).1=if i=0\/d<(cN qs n i).1 then d else(cN qs n i).1 from by rw[<-hd];rfl);have af:=O (show(cN qs n (i+1)).2=if i=0\/(cN qs n i).2<d then d else(cN qs n i).2 from by rw[<-hd];rfl);obtain⟨lo,a6⟩:=χ ((cN qs n i).1);obtain⟨hh,a5⟩:=χ ((cN qs n i).2);rw[a6]at X6 ag ad;rw[a5]at X6 ag af;clear hd a6 a5;by_cases ab:i=0
   ·have bv:((i:Int) == 0)=true:=by rw[ab];rfl
    have aa:=O ab;clear ab;obtain⟨⟨F,G,H,J⟩,L,Q,R,U⟩:=X6.o.lb.at1;obtain⟨⟨X,Y,z2,z3⟩,z4,z5,z6,z7⟩:=X6.o.hb.at1;obtain⟨c0,c1,c2,c3⟩:=B8.o.at1.1
    go_upto_region 7 with fail
    change Code.wp _ _ _ _ (put4 w6 (w.heap.size+2) 0 A);obtain⟨X7,D7,B9⟩:=η3 (X6.o.low D6.o) (D6.o.put4 X6.o.lb.at1 A) (B8.o.oput4 (g':=w.heap.size+2) (ψ a2.o) 0 A);clear F G H J L Q R U X Y z2 z3 z4 z5 z6 z7 c0 c1 c2 c3;generalize put4 w6 (w.heap.size+2) 0 A=w7 at *;obtain⟨⟨F,G,H,J⟩,L,Q,R,U⟩:=X7.o.lb.at1;obtain⟨⟨X,Y,z2,z3⟩,z4,z5,z6,z7⟩:=X7.o.hb.at1;obtain⟨c0,c1,c2,c3⟩:=B9.o.at1.1
    go_wp2_with fail
    go_round
    case rel=>exact⟨i+1,by omega,rfl,A,A,by rw[ad.o,af.o,if_pos (.inl aa.o),if_pos (.inl aa.o)];exact X7.o.high D7.o,Below.refl _ _⟩
    case measure=>exact μ
   ·have bv:((i:Int) == 0)=false:=beq_eq_false_iff_ne.mpr I
    have aa:=O ab;clear ab;obtain⟨⟨F,G,H,J⟩,L,Q,R,U⟩:=X6.o.lb.at1;obtain⟨⟨X,Y,z2,z3⟩,z4,z5,z6,z7⟩:=X6.o.hb.at1;obtain⟨c0,c1,c2,c3⟩:=B8.o.at1.1
    go_wp2_with fail
    refine(bG (.agg (aq A)) (.agg (aq lr)) d lo (3*(l+k+1)+1) (3*(l+k+1)+1) w6 D6.o X6.o.l av.o ag.o.1 I).mono ?_;rintro e w7 ⟨rfl,an⟩;obtain⟨X7,D7,B9⟩:=η3 (X6.o.below an) (D6.o.below an) (B8.o.to an);have ca:w.heap.size+3<w5.heap.size:=a2.o;clear F G H J L Q R U X Y z2 z3 z4 z5 z6 z7 c0 c1 c2 c3 an;obtain⟨z,hz⟩:=χ (dc d lo);have HZ:=O (show z<0↔d<lo from by rw[<-hz];exact rk);rw[hz];clear hz;obtain⟨⟨F,G,H,J⟩,L,Q,R,U⟩:=X7.o.lb.at1;obtain⟨⟨X,Y,z2,z3⟩,z4,z5,z6,z7⟩:=X7.o.hb.at1;obtain⟨c0,c1,c2,c3⟩:=B9.o.at1.1;by_cases C:z<0
    case' pos =>
     have u:=O C
     go_upto_region 7 with fail
     change Code.wp _ _ _ _ (put4 w7 (w.heap.size+2) 0 A);obtain⟨X8,D8,ac⟩:=η3 (X7.o.low D7.o) (D7.o.put4 X7.o.lb.at1 A) (B9.o.oput4 (g':=w.heap.size+2) I 0 A);have aw:=O (show(cN qs n (i+1)).1=d from by rw[ad.o,if_pos (.inr (HZ.o.mp u.o))]);clear F G H J L Q R U X Y z2 z3 z4 z5 z6 z7 c0 c1 c2 c3 C u;generalize put4 w7 (w.heap.size+2) 0 A=w8 at *
    case' neg =>
     have u:=O C
     go_upto_region 7 with fail
     obtain⟨X8,D8,ac⟩:=η3 X7.o D7.o B9.o;have aw:=O (show(cN qs n (i+1)).1=lo from by
      rw[ad.o,if_neg (by
       rintro(h|h)
       ·exact aa.o h
       ·exact absurd (HZ.o.mpr h) (ψ u.o))])
     clear F G H J L Q R U X Y z2 z3 z4 z5 z6 z7 c0 c1 c2 c3 C u;generalize w7=w8 at *
    all_goals
     clear X7 D7 B9 HZ;obtain⟨⟨F,G,H,J⟩,L,Q,R,U⟩:=X8.o.lb.at1;obtain⟨⟨X,Y,z2,z3⟩,z4,z5,z6,z7⟩:=X8.o.hb.at1;obtain⟨c0,c1,c2,c3⟩:=ac.o.at1.1
     go_wp2_with fail
     refine(bG (.agg (aq A)) (.agg (aq hr)) d hh (3*(l+k+1)+1) (3*(l+k+1)+1) w8 D8.o X8.o.h av.o ag.o.2 I).mono ?_;rintro e w9 ⟨rfl,ao⟩;obtain⟨X9,D9,bi⟩:=η3 (X8.o.below ao) (D8.o.below ao) (ac.o.to ao);clear F G H J L Q R U X Y z2 z3 z4 z5 z6 z7 c0 c1 c2 c3 ao;obtain⟨z,hz⟩:=χ (dc d hh);have HZ:=O (show 0<z↔hh<d from by rw[<-hz];exact rj);rw[hz];clear hz;obtain⟨⟨F,G,H,J⟩,L,Q,R,U⟩:=X9.o.lb.at1;obtain⟨⟨X,Y,z2,z3⟩,z4,z5,z6,z7⟩:=X9.o.hb.at1;obtain⟨c0,c1,c2,c3⟩:=bi.o.at1.1;by_cases C:0<z
     ·have u:=O C
      have ar:=O (show(cN qs n (i+1)).2=d from by rw[af.o,if_pos (.inr (HZ.o.mp u.o))])
      go_wp2_with fail
      go_round
      case rel=>exact⟨i+1,by omega,rfl,_,A,by rw[aw.o,ar.o];exact X9.o.high D9.o,Below.refl _ _⟩
      case measure=>exact μ
     ·have u:=O C
      have ar:=O (show(cN qs n (i+1)).2=hh from by
       rw[af.o,if_neg (by
        rintro(h|h)
        ·exact aa.o h
        ·exact absurd (HZ.o.mpr h) (ψ u.o))])
      go_wp2_with fail
      go_round
      case rel=>exact⟨i+1,by omega,rfl,_,hr,by rw[aw.o,ar.o];exact X9.o,Below.refl _ _⟩
      case measure=>exact μ
section
open V
variable {P : Nat → V} {N E : Nat} {fs : List RF} {p : Q3}
end
section
open V
variable {P : Nat → V} {N E : Nat} {fs : List RF}
theorem RingsOk.few(h:RingsOk P N fs E)(j:N<=16):fs.length<=65536:=by
 have e:=fB (fs.map RF.o) (List.range 65536) h.nodup (fun x C=>by
  obtain⟨f,u,rfl⟩:=List.mem_map.mp C;obtain⟨b,-,A,-⟩:=h.ok f u;rw[List.mem_range,A];exact Nat.lt_of_lt_of_le (mF _ _) (Nat.le_trans (Nat.pow_le_pow_right (n:=2) I j) ν))
 simpa using e
theorem RingsOk.rows(h:RingsOk P N fs E)(hS:Sorted P N):∀f∈fs,f.r≠[]/\∀i∈f.r,i<N:=fun f e=>by
 obtain⟨b,hF,-,hr⟩:=h.ok f e;rw[hr];exact⟨(hF.ring_hd hS).2,fun i hi=>(aG.mp ((hF.ring_mem hS i).mp hi).1).1⟩
theorem RingsOk.bd(h:RingsOk P N fs E)(hS:Sorted P N)(u:∀i,i<N->LeV 4096 (P i)):∀g∈fs.map (fi P),BdV 2 g.1/\Bd 2 g.2:=fun g F=>by
 obtain⟨f,e,rfl⟩:=List.mem_map.mp F;obtain⟨b,hF,-,hr,-⟩:=h.pl hS e;obtain⟨A,-⟩:=h.face hS e;have j:=qt (ug u hF) I;have G:f.r.headD 0<N:=by rw[hr];exact(Face.ring_hd hS hF).1
 rw[A];refine⟨gV (j.mono I),?_⟩;have C:=j.dot (u _ G);show Bd 2 ((dot (aW f.n) (P (f.r.headD 0)):Int):Rat);refine Bd.int _ ?_;unfold Le at C;unfold B;omega
theorem centre_bd{w:World}{C F:Value}{qs:List Q3}{e:List FR}{rs:List (List Nat)}{d M:Nat}(hS:SolidF w C F qs e rs d M):BdV 18 (qscale (1 / (4*dR (aC (qAt qs) rs))) (fp (aC (qAt qs) rs))):=by
 obtain⟨j,u,-⟩:=tJ hS.dpos hS.dmax hS.mmax hS.frac (by rw[hS.sol.len];exact hS.sol.max) (fun r hr=>(hS.sol.ring r hr).1) (aC (qAt qs) rs) ρ (fun x A=>A);have:=BdV.qscale (bd4.mul j).inv u;exact this
end
theorem RMin_any(R U:Value)(x y:Rat)(k l:Nat)(w:World)(ha:aj w R x)(hb:aj w U y)(hk:Bd k x)(hl:Bd l y)(h1:k+l<=1000000):
 Calls prog 63 #[R,U] w fun e w'=>dO w' e (if y<x then y else x)/\Bl w w':=by
 obtain⟨s1,a1,n1,c1,s2,a2,n2,c2,s3,a3,n3,c3,s4,a4,n4,c4,rfl,rfl,-,-,ra,rb,-⟩:=start2 w R U x y ha hb 55 55;obtain⟨W,hW,b1,b2,j,F,hS⟩:=bX w #[.bool s1,.slice a1 n1 c1,.bool s2,.slice a2 n2 c2] #[.bool s3,.slice a3 n3 c3,.bool s4,.slice a4 n4 c4] #[.bool false,.slice none 0 0,.bool false,.slice none 0 0] 55 55 55;obtain⟨HB,RA,RB,X,Y,B3,HS,HK,HL⟩:=η9 F (ra.below F) (rb.below F) b1 b2 j hS hk hl;have G:=b1.four;have H:=b2.four;obtain⟨G,x1,x2,x3,-⟩:=G;obtain⟨H,y1,y2,y3,-⟩:=H;clear ha hb hk hl ra rb b1 b2 j F hS;obtain⟨m,L⟩:=χ ((if y<x then y else x));rw[L];have HM:=O L;clear L
 go_enter func63,ntmps63
 go_wp2_with fail
 refine(bG _ _ y x l k W RB.o RA.o HL.o HK.o I).mono ?_;rintro e w1 ⟨rfl,u⟩;obtain⟨K1,A⟩:=η2 (ae HB.o u (ψ HB.o.size)) u;obtain⟨z,Q⟩:=χ (dc y x);have HZ:=O (show z<0↔y<x from by rw[<-Q];exact rk);rw[Q];clear Q G x1 x2 x3 H y1 y2 y3 u;obtain⟨G,x1,x2,x3,-⟩:=(X.o.to A.o).four;obtain⟨H,y1,y2,y3,-⟩:=(Y.o.to A.o).four;have j:=B3.o.to A.o;obtain⟨z0,z1,z2,z3,z4⟩:=j.four;have HY:=O (fun(h:z<0)=>(show m=y from by rw[<-HM.o,if_pos (HZ.o.mp h)]));have HX:=O (fun(h:¬ z<0)=>(show m=x from by rw[<-HM.o,if_neg (fun h'=>h (HZ.o.mpr h'))]));by_cases C:z<0
 ·have J:=O (HY.o C)
  go_wp2;exact aL results63 (w.heap.size+1+1) (j.set4 (.bool s3) (.slice a3 n3 c3) (.bool s4) (.slice a4 n4 c4)) _ rfl underlying55 rfl aY rfl
   ⟨⟨_,rfl,by rw[J.o];exact aj.store4 (RB.o.below A.o) j _ _ _ _⟩,aR K1.o I _ _ _ _⟩
 ·have J:=O (HX.o C)
  go_wp2;exact aL results63 (w.heap.size+1+1) (j.set4 (.bool s1) (.slice a1 n1 c1) (.bool s2) (.slice a2 n2 c2)) _ rfl underlying55 rfl aY rfl
   ⟨⟨_,rfl,by rw[J.o];exact aj.store4 (RA.o.below A.o) j _ _ _ _⟩,aR K1.o I _ _ _ _⟩
theorem RMax_any(R U:Value)(x y:Rat)(k l:Nat)(w:World)(ha:aj w R x)(hb:aj w U y)(hk:Bd k x)(hl:Bd l y)(h1:k+l<=1000000):
 Calls prog 64 #[R,U] w fun e w'=>dO w' e (if x<y then y else x)/\Bl w w':=by
 obtain⟨s1,a1,n1,c1,s2,a2,n2,c2,s3,a3,n3,c3,s4,a4,n4,c4,rfl,rfl,-,-,ra,rb,-⟩:=start2 w R U x y ha hb 55 55;obtain⟨W,hW,b1,b2,j,F,hS⟩:=bX w #[.bool s1,.slice a1 n1 c1,.bool s2,.slice a2 n2 c2] #[.bool s3,.slice a3 n3 c3,.bool s4,.slice a4 n4 c4] #[.bool false,.slice none 0 0,.bool false,.slice none 0 0] 55 55 55;obtain⟨HB,RA,RB,X,Y,B3,HS,HK,HL⟩:=η9 F (ra.below F) (rb.below F) b1 b2 j hS hk hl;have G:=b1.four;have H:=b2.four;obtain⟨G,x1,x2,x3,-⟩:=G;obtain⟨H,y1,y2,y3,-⟩:=H;clear ha hb hk hl ra rb b1 b2 j F hS;obtain⟨m,L⟩:=χ ((if x<y then y else x));rw[L];have HM:=O L;clear L
 go_enter func64,ntmps64
 go_wp2_with fail
 refine(bG _ _ y x l k W RB.o RA.o HL.o HK.o I).mono ?_;rintro e w1 ⟨rfl,u⟩;obtain⟨K1,A⟩:=η2 (ae HB.o u (ψ HB.o.size)) u;obtain⟨z,Q⟩:=χ (dc y x);have HZ:=O (show 0<z↔x<y from by rw[<-Q];exact rj);rw[Q];clear Q G x1 x2 x3 H y1 y2 y3 u;obtain⟨G,x1,x2,x3,-⟩:=(X.o.to A.o).four;obtain⟨H,y1,y2,y3,-⟩:=(Y.o.to A.o).four;have j:=B3.o.to A.o;obtain⟨z0,z1,z2,z3,z4⟩:=j.four;have HY:=O (fun(h:0<z)=>(show m=y from by rw[<-HM.o,if_pos (HZ.o.mp h)]));have HX:=O (fun(h:¬ 0<z)=>(show m=x from by rw[<-HM.o,if_neg (fun h'=>h (HZ.o.mpr h'))]));by_cases C:0<z
 ·have J:=O (HY.o C)
  go_wp2;exact aL results64 (w.heap.size+1+1) (j.set4 (.bool s3) (.slice a3 n3 c3) (.bool s4) (.slice a4 n4 c4)) _ rfl underlying55 rfl aY rfl
   ⟨⟨_,rfl,by rw[J.o];exact aj.store4 (RB.o.below A.o) j _ _ _ _⟩,aR K1.o I _ _ _ _⟩
 ·have J:=O (HX.o C)
  go_wp2;exact aL results64 (w.heap.size+1+1) (j.set4 (.bool s1) (.slice a1 n1 c1) (.bool s2) (.slice a2 n2 c2)) _ rfl underlying55 rfl aY rfl
   ⟨⟨_,rfl,by rw[J.o];exact aj.store4 (RA.o.below A.o) j _ _ _ _⟩,aR K1.o I _ _ _ _⟩
end Go.Proofs.Υ
