/- Lemmas. -/
import Derived.Test.YtodehkjinmgflaaGreatDoorV8
set_option linter.all false
set_option maxHeartbeats 0
set_option maxRecDepth 99999
namespace Go.Proofs.Υ
open Go Go.RowKit Tryz
theorem lead{y:Nat}(h:0<y)(j:y<4294967296):∃s:Nat,(32-(Lib.bitLen y:Int))=(s:Int)/\s<=31/\y*2 ^ s<4294967296:=by
 have i:=Lib.bitLenAux_bounds 64 y I I;have u:Lib.bitLen y<=32:=Lib.bitLen_le y 32 I j;unfold Lib.bitLen at *;generalize Lib.bitLenAux 64 y=n at *;refine⟨32-n,by omega,by omega,?_⟩;have e:y*2 ^ (32-n)<2 ^ n*2 ^ (32-n):=Nat.mul_lt_mul_of_pos_right i.2.2 (Nat.two_pow_pos _);rw[<-Nat.pow_add,show n+(32-n)=32 from by omega]at e;exact e
def t8(w:World)(e:Ending)(X Y:Nat):Prop:=
 ∃a1 n1 c1 d1 a2 n2 c2 d2,e=.returned (.tuple #[.slice a1 n1 c1,.slice a2 n2 c2])/\Mag w a1 n1 c1 d1/\Nz d1/\val d1=X / Y/\Mag w a2 n2 c2 d2/\Nz d2/\val d2=X % Y
theorem divide_less(a b:Option Addr)(A G lb cb:Nat)(xs u:List Nat)(w:World)(ha:Mag w a A G xs)(hb:Mag w b lb cb u)(na:Nz xs)(nb:Nz u)(L:A<=1000000)(Q:lb<=1000000)(i:val xs<val u):
 Calls prog 155 #[.slice a A G,.slice b lb cb] w fun e w'=>t8 w' e (val xs) (val u)/\Bl w w':=by
 obtain⟨E,H,F⟩:=η3 ha hb i;have hc:=tP i;have J:=O hc;clear ha hb i hc
 go_enter func155,ntmps155
 go_wp2_with fail
 refine(fQ _ _ _ _ _ _ xs u _ E.o H.o na nb I I).mono ?_;rw[J.o];rintro e w0 ⟨rfl,j⟩;have C:=O j;clear j;go_wp2
 go_ret2
 exact⟨⟨_,_,_,[],_,_,_,xs,rfl,Mag.nil _,Or.inl rfl,by rw[Nat.div_eq_of_lt F.o];rfl,E.o.below C.o,na,by rw[Nat.mod_eq_of_lt F.o]⟩,C.o⟩
theorem divide_one(a b:Option Addr)(la ca cb:Nat)(xs u:List Nat)(w:World)(ha:Mag w a la ca xs)(hb:Mag w b 1 cb u)(na:Nz xs)(nb:Nz u)(h1:la<=1000000)(aa:val u<=val xs):
 Calls prog 155 #[.slice a la ca,.slice b 1 cb] w fun e w'=>t8 w' e (val xs) (val u)/\Bl w w':=by
 obtain⟨HA,HB⟩:=η2 ha hb;have hc:0<=fC (val xs) (val u):=by unfold fC;rw[if_neg I];split<;>omega
 obtain⟨y,rfl⟩:∃y,u=[y]:=by
  have:=hb.len
  match u,this with
  | [y],_=>exact⟨y,rfl⟩
 have Q:0<y:=by
  have:=eW nb (by simp)
  simpa[val]using this
 have R:y<4294967296:=hb.dg y (by simp);have j:val [y]=y:=by simp[val]
 rw[j]at hc⊢;generalize E:fC (val xs) y=cc at *;obtain⟨HC,X⟩:=η2 E j;clear ha hb aa E j
 go_enter func155,ntmps155
 go_wp2_with fail
 refine(fQ _ _ _ _ _ _ xs [y] _ HA.o HB.o na nb I I).mono ?_;rw[X.o,HC.o];rintro e w0 ⟨rfl,i⟩;obtain⟨b',o',rfl,Y,ad,U⟩:=(HB.o.below i).cells I;have ab:=U 0 I;simp only[List.getD_cons_zero,Nat.add_zero]at ab;have H0:=O i;clear i U Y
 go_wp2_with fail
 refine(rT _ _ _ y xs _ (HA.o.below H0.o) h1 Q R).mono ?_;rintro e W ⟨⟨p1,q1,r1,e1,rfl,F,G,L,ac⟩,A⟩;obtain⟨M1,N1,V1⟩:=η3 F G L;have L1:Hid (Bl w W):=ae H0.o A ρ;clear F G L A
 go_wp2_with fail
 have J:val xs % y<4294967296:=Nat.lt_trans (Nat.mod_lt _ Q) R;refine(ft _ 1 1 [val xs % y] _ (Mag.alloc _ _ _ _ _ _ (by simp) (by simp[dig]) (Dg.cons J Dg.nil) rfl rfl) I).mono ?_;rintro e w2 ⟨⟨n,hm,hn,H,hv,rfl⟩,rfl⟩;obtain⟨M2,N2,V2⟩:=η3 hm H hv;clear hm H hv J;go_wp2
 go_ret2
 have C:Bl W (W.alloc (.cells #[.int .u32 ((val xs:Int) % (y:Int))] 176)):=by go_grown
 exact⟨⟨_,_,_,_,_,_,_,_,rfl,M1.o.below C,N1.o,V1.o,M2.o,N2.o,by rw[V2.o];simp[val]⟩,ae L1.o C ρ⟩
theorem top_less{xs i us:List Nat}{e lb s:Nat}(H:Dg xs)(u:xs.length=e)(X:us.length=e+1)(j:i.length=lb)(A:Nz i)(J:0<lb)(L:lb<=e)(Y:val us=2 ^ s*val xs):val (us.drop (e-lb+1))<2 ^ s*val i:=by
 have W:=fd us (e-lb+1) I;have C:=jp H;rw[u]at C;have E:B ^ (lb-1)<=val i:=by
  have:=j3 A (by intro h;rw[h]at j;simp at j;omega)
  rwa [j]at this
 have F:B ^ e=B ^ (e-lb+1)*B ^ (lb-1):=by rw[<-Nat.pow_add];congr 1;omega
 have G:B ^ (e-lb+1)*val (us.drop (e-lb+1))<B ^ (e-lb+1)*(2 ^ s*val i):=by
  have Q:2 ^ s*val xs<2 ^ s*(B ^ (e-lb+1)*B ^ (lb-1)):=by rw[<-F];exact Nat.mul_lt_mul_of_pos_left C (Nat.two_pow_pos s)
  have R:2 ^ s*(B ^ (e-lb+1)*B ^ (lb-1))<=2 ^ s*(B ^ (e-lb+1)*val i):=Nat.mul_le_mul_left _ (Nat.mul_le_mul_left _ E);have U:2 ^ s*(B ^ (e-lb+1)*val i)=B ^ (e-lb+1)*(2 ^ s*val i):=by rw[Nat.mul_left_comm]
  omega
 exact Nat.lt_of_mul_lt_mul_left G
theorem top_fits{i:List Nat}{lb s y:Nat}(H:Dg i)(L:i.length=lb)(J:0<lb)(C:i.getD (lb-1) 0=y)(A:s<=31)(u:y*2 ^ s<B):2 ^ s*val i<B ^ lb:=by
 obtain⟨k,rfl⟩:∃k,lb=k+1:=⟨lb-1,by omega⟩;have j:=bh i k;rw[List.take_of_length_le I]at j;simp only[Nat.add_sub_cancel]at C;rw[C]at j;have E:=jp (H.take k);rw[List.length_take,Nat.min_eq_left I]at E;have F:val i<B ^ k*(y+1):=by rw[Nat.mul_add];omega
 have Q:2 ^ s*val i<2 ^ s*(B ^ k*(y+1)):=Nat.mul_lt_mul_of_pos_left F (Nat.two_pow_pos s);have G:(y+1)*2 ^ s<=B:=by
  have e:B=2 ^ (32-s)*2 ^ s:=by rw[<-Nat.pow_add,show 32-s+s=32 from by omega];rfl
  rw[e]at u⊢;have:=Nat.lt_of_mul_lt_mul_right u;exact Nat.mul_le_mul_right _ this
 have R:2 ^ s*(B ^ k*(y+1))=B ^ k*((y+1)*2 ^ s):=by grind
 have U:B ^ k*((y+1)*2 ^ s)<=B ^ k*B:=Nat.mul_le_mul_left _ G;rw[Nat.pow_succ];omega
theorem divide_long(a b:Option Addr)(A ca lb cb:Nat)(xs u:List Nat)(w:World)(ha:Mag w a A ca xs)(hb:Mag w b lb cb u)(na:Nz xs)(nb:Nz u)(h1:A<=1000000)(cm:2<=lb)(bi:val u<=val xs):
 Calls prog 155 #[.slice a A ca,.slice b lb cb] w fun e w'=>t8 w' e (val xs) (val u)/\Bl w w':=by
 obtain⟨HA,HB⟩:=η2 ha hb;have hc:0<=fC (val xs) (val u):=by unfold fC;rw[if_neg I];split<;>omega
 have cn:lb<=A:=by have:=ie ha.dg nb bi;have:=ha.len;have:=hb.len;omega
 obtain⟨cs,R,b6,U⟩:=η4 ha.len hb.len na nb;generalize a7:fC (val xs) (val u)=cc at *;have HC:=O a7;have cy:(((lb:Nat):Int) == 1)=false:=by rw[beq_eq_false_iff_ne];omega
 obtain⟨y,Y⟩:=χ (u.getD (lb-1) 0);have cq:0<y:=by
  rcases nb with h|h
  ·rw[h]at hb;have:=hb.len;simp at this;omega
  ·rw[hb.len,Y]at h;omega
 have cr:y<4294967296:=by rw[<-Y];exact hb.dg.getD _
 obtain⟨s,hs,E,bu⟩:=lead cq cr;obtain⟨HY,b8⟩:=η2 Y bu;clear ha hb bi a7 Y na nb bu
 go_enter func155,ntmps155
 go_wp2_with fail
 refine(fQ _ _ _ _ _ _ xs u _ HA.o HB.o b6.o U.o I I).mono ?_;rw[HC.o];rintro e w0 ⟨rfl,ap⟩;obtain⟨bb,ob,rfl,ci,cD,b5⟩:=(HB.o.below ap).cells I;have b4:=b5 (lb-1) I;rw[HY.o]at b4;have H0:=O ap;clear ap b5 ci
 go_wp2_with fail
 refine(bits_LeadingZeros32 (y:Int) _ I I).mono ?_;rw[Int.toNat_natCast,hs];rintro e w' ⟨rfl,rfl⟩;clear hs b4
 go_wp2_with fail
 refine(pS _ _ _ s xs _ (HA.o.below H0.o) h1 E).mono ?_;rintro e w1 ⟨⟨us,rfl,L,a9,bV⟩,a5⟩;obtain⟨OU,DU,VU⟩:=η3 L a9 bV;have L1:Hid (Bl w w1):=ae H0.o a5 ρ;have a1:Hid (w.heap.size<=w'.heap.size):=H0.o.size;obtain⟨W,bf⟩:∃W,W=w'.heap.size:=⟨_,rfl⟩;rw[<-bf]at OU a1⊢;clear L a9 bV a5 bf
 go_wp2_with fail
 refine(pS _ _ _ s u _ (HB.o.below L1.o) I E).mono ?_;rintro e w2 ⟨⟨vs,rfl,bs,ba,b0⟩,ar⟩;have ac:W<w1.heap.size:=OU.o.lt;have ao:Hid (Own w2 W (A+1) us):=OU.o.below ar ac;obtain⟨OV,DV,VV⟩:=η3 bs ba b0;have L2:Hid (Bl w w2):=ae L1.o ar ρ;obtain⟨gv,bg⟩:∃gv,gv=w1.heap.size:=⟨_,rfl⟩;rw[<-bg]at OV ac⊢;clear bs ba b0 ar bg OU;have c5:=O OV.o.len
 go_wp2_with fail
 refine(ft _ _ _ vs _ (OV.o.mag DV.o) I).mono ?_;rintro e w' ⟨⟨n,hm,hn,av,hv,rfl⟩,rfl⟩;rw[VV.o]at hv;have H:=top_fits HB.o.dg R.o I HY.o E b8.o;have cp:n=lb:=by
  have hl:(vs.take n).length=n:=hm.len;have e1:=su av (n:=lb) (by rw[hv];exact H);have e2:B ^ (lb-1)<=val u:=by
   have:=j3 U.o (by intro h;have:=R.o;rw[h]at this;simp at this;omega)
   rwa [R.o]at this
  have e3:B ^ (lb-1)<B ^ n:=by
   have e4:=jp hm.dg;rw[hl,hv]at e4;have e5:1*val u<=2 ^ s*val u:=Nat.mul_le_mul_right _ (Nat.two_pow_pos s);omega
  have:=(Nat.pow_lt_pow_iff_right (by unfold B;omega:1<B)).1 e3;omega
 subst cp;obtain⟨MV,VT,NT,FT⟩:=η4 hm hv av H;clear hm av hv H;have bv:((A:Int)-n)+1=((A-n+1:Nat):Int):=I
 go_wp2_with (at_make;refine gI _ rfl _ _ rfl _ _ _ _ rfl rfl (A-n+1) ?c1 ?c2 ?c3 ?_)
 case c1=>omega
 case c2=>omega
 case c3=>omega
 intro w3 J G;obtain⟨OQ,cB⟩:=η2 J G;have L3:Hid (Bl w w3):=ae L2.o G ρ;have be:gv<w2.heap.size:=OV.o.lt;have ce:Hid (Own w3 W (A+1) us):=ao.o.below G I;have a2:Hid (Mag w3 (some ⟨gv,0,none⟩) n (n+1) (vs.take n)):=MV.o.below G;have a0:Hid (w.heap.size<=w2.heap.size):=L2.o.size;obtain⟨gq,bc⟩:∃gq,gq=w2.heap.size:=⟨_,rfl⟩;rw[<-bc]at OQ be a0⊢;clear J G bc bv;have V0:Hid (0<2 ^ s*val u):=Nat.mul_pos (Nat.two_pow_pos s) (eW U.o (by intro h;have:=R.o;rw[h]at this;simp at this;omega));have ch:Hid (val (us.drop (A-n+1))<2 ^ s*val u):=top_less HA.o.dg cs.o ao.o.len R.o U.o I cn VU.o;go_wp2;have b7:Hid (0<(vs.take n).getD (n-1) 0):=by
  have hl:(vs.take n).length=n:=a2.o.len
  rcases NT.o with h|h
  ·rw[h]at hl;simp at hl;omega
  ·rw[hl]at h;show 0<_;omega
 clear L1 L2 ao MV HY
 go_loopw [11] (fun iv wr=>∃k C qs,k<=A-n+1/\iv=.int .i64 ((k:Int)-1)/\Own wr W (A+1) C/\Own wr gq (A-n+1) qs/\Mag wr (some ⟨gv,0,none⟩) n (n+1) (vs.take n)/\DivI (val us) (2 ^ s*val u) k C qs/\Bl w wr) (fun iv _=>(intOf iv+1).toNat)
 case atStart=>exact⟨A-n+1,us,_,Nat.le_refl _,kH I,ce.o,OQ.o,a2.o,⟨DU.o,Dg.zeros _,by rw[rK];simp,ch.o,fun j _=>by simp[List.getElem?_replicate];split<;>rfl⟩,L3.o⟩
 case round =>
  obtain⟨k,C,qs,hk,rfl,L,J,bp,a8,a6⟩:=hrel;obtain⟨F,ag,a4,DI,L4⟩:=η5 L J bp a8 a6;clear L J bp a8 a6;by_cases cl:0<k
  ·obtain⟨i,rfl⟩:∃i,k=i+1:=⟨k-1,by omega⟩
   have ei:(((i+1:Nat):Int)-1)=(i:Int):=I;rw[ei];clear ei;have WN:=O (DI.o.window (n:=n) FT.o (by rw[F.o.len];omega))
   go_wp2_with fail
   rw[show i+n+1-i=n+1 from by omega];refine(digit_any W i (A+1) n (A+1-i) gv 0 (n+1) C (vs.take n) wr F.o DI.o.1 I I a4.o I cm I b7.o (by rw[VT.o];exact WN.o.2.2)).mono ?_;rw[VT.o];rintro e w5 ⟨cu,rfl,Q,ab,b3,bt,X⟩;have cg:=O Q;have az:=O (DI.o.step V0.o FT.o (by rw[F.o.len];omega) (by rw[ag.o.len];omega) (by rw[Q.len,F.o.len]) ab b3 bt);obtain⟨an,cd⟩:=η2 (ag.o.touch X I) (a4.o.touch X I);have L5:Hid (Bl w w5):=Tch.below L4.o X a1.o L4.o.size;have c0:=an.o.cell i I;have c4:=an.o.free i;obtain⟨qd,aw⟩:=χ (val (win C i (n+1)) / (2 ^ s*val u));rw[aw]at az⊢;have cV:qd<4294967296:=by
    rw[<-aw,Nat.div_lt_iff_lt_mul V0.o,Nat.mul_comm];exact WN.o.2.2
   clear Q ab b3 bt X aw;go_wp2
   go_roundw
   case rel =>
    exact⟨i,cu,qs.set i qd,by omega,rfl,(cg.o.kept (heap_setCell_other _ _ _ _ (by show W≠gq;omega))),an.o.stored _ _ _ rfl,cd.o.touch ((Tch.refl gq w5).set i _) I,az.o,L5.o.setCell a0.o _⟩
   case measure=>simp[intOf]
  ·obtain rfl:k=0:=I
   clear cl
   go_wp2_with fail
   refine(ft _ _ _ qs _ (ag.o.mag DI.o.2.1) I).mono ?_;rintro e w' ⟨⟨n1,bk,cF,ad,bF,rfl⟩,rfl⟩;obtain⟨M1,N1,V1⟩:=η3 bk ad bF;clear bk ad bF
   go_wp2_with fail
   refine(ft _ _ _ C _ (F.o.mag DI.o.1) I).mono ?_;rintro e w' ⟨⟨n2,bl,cU,br,bI,rfl⟩,rfl⟩;obtain⟨M2,V2⟩:=η2 bl bI;clear bl br bI
   go_wp2_with fail
   refine(lowered_any W 0 n2 (A+1) s _ _ M2.o I E).mono ?_;rintro e w6 ⟨⟨a3,n3,c3,d3,rfl,bm,af,ay,cv⟩,au⟩;rw[V2.o]at ay;obtain⟨M3,N3,V3⟩:=η3 bm af ay;have L6:Hid (Bl w w6):=ae L4.o au ρ;have b9:=O (M1.o.below au);clear bm af ay au;go_wp2
   go_ret2
   obtain⟨d1,d2,d4,d5,-⟩:=DI.o;rw[List.drop_zero]at d5;have bz:=VU.o;have aa:val qs=val xs / val u/\val C=2 ^ s*(val xs % val u):=by
    have e1:val us / (2 ^ s*val u)=val qs:=by
     rw[d4,Nat.mul_add_div V0.o,Nat.div_eq_of_lt d5,Nat.add_zero]
    have e2:val us % (2 ^ s*val u)=val C:=by
     rw[d4,Nat.mul_add_mod,Nat.mod_eq_of_lt d5]
    rw[bz,Nat.mul_div_mul_left _ _ (Nat.two_pow_pos s)]at e1;rw[bz,Nat.mul_mod_mul_left]at e2;exact⟨e1.symm,e2.symm⟩
   refine⟨⟨_,_,_,_,_,_,_,_,rfl,b9.o,N1.o,by rw[V1.o];exact aa.1,M3.o,N3.o,?_⟩,L6.o⟩;rw[V3.o,aa.2,Nat.mul_div_cancel_left _ (Nat.two_pow_pos s)]
theorem lI(a b:Option Addr)(j u lb cb:Nat)(xs i:List Nat)(w:World)(ha:Mag w a j u xs)(hb:Mag w b lb cb i)(na:Nz xs)(nb:Nz i)(A:j<=1000000)(G:lb<=1000000)(F:0<val i):
 Calls prog 155 #[.slice a j u,.slice b lb cb] w fun e w'=>t8 w' e (val xs) (val i)/\Bl w w':=by
 by_cases E:val xs<val i
 ·exact divide_less a b j u lb cb xs i w ha hb na nb A G E
 ·by_cases C:lb=1
  ·subst C
   exact divide_one a b j u cb xs i w ha hb na nb A I
  ·refine divide_long a b j u lb cb xs i w ha hb na nb A ?_ I
   have:=hb.len
   rcases Nat.lt_or_ge lb 1 with h|h
   ·have:i=[]:=List.length_eq_zero_iff.1 I
    rw[this]at F;simp[val]at F
   ·omega
#print axioms lI
end Go.Proofs.Υ
