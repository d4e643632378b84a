/- Lemmas. -/
import Derived.Test.YtodehkjinmgflaaGreatDoorV5
import Derived.Test.YtodehkjinmgflaaGreatDoorV17
set_option linter.all false
set_option maxHeartbeats 0
set_option maxRecDepth 99999
namespace Go.Proofs.Υ
open Go Go.RowKit Tryz
def mW(n:V)(o:Nat):Value:=.agg #[.int .i64 n.x,.int .i64 n.y,.int .i64 n.z,.int .u64 (o:Int)]
def fF(P:Nat->V)(N i j m:Nat)(n:V):Prop:=
 tri P i j m≠V.zero/\(n=tri P i j m\/n=-tri P i j m)/\(∀q,q<N->V.dot n (P q-P i)<=0)/\∃q,q<N/\V.dot n (P q-P i)<0
def cA(P:Nat->V)(N:Nat)(n:V)(i:Nat):Nat:=j6 (fun q=>decide (V.dot n (P q-P i)=0)) N
def RetSide(P:Nat->V)(N i j m:Nat)(e:Ending):Prop:=
 (∃n,fF P N i j m n/\e=.returned (.tuple #[mW n (cA P N n i),.bool true]))\/((∀n,¬ fF P N i j m n)/\∃n o,e=.returned (.tuple #[mW n o,.bool false]))
def fI(P:Nat->V)(i:Nat)(n:V)(k:Nat)(l1 l2:Bool)(o:Nat):Prop:=
 (l1=true↔∃q,q<k/\V.dot n (P q-P i)<0)/\(l2=true↔∃q,q<k/\0<V.dot n (P q-P i))/\o=j6 (fun q=>decide (V.dot n (P q-P i)=0)) k
theorem mZ(p:Nat->Bool)(k:Nat):j6 p (k+1)=j6 p k ||| (if p k then 2 ^ k else 0):=rfl
theorem fI.zero(P:Nat->V)(i:Nat)(n:V):fI P i n 0 false false 0:=⟨by simp,by simp,rfl⟩
theorem kN{p:Nat->Prop}{k:Nat}:(∃q,q<k+1/\p q)↔(∃q,q<k/\p q)\/p k:=
 ⟨fun⟨q,h,i⟩=>by
  by_cases e:q=k
  ·exact .inr (e▸i)
  ·exact .inl ⟨q,by omega,i⟩,fun h=>by
  rcases h with⟨q,h,i⟩|i
  ·exact⟨q,by omega,i⟩
  ·exact⟨k,by omega,i⟩⟩
theorem fI.neg{P:Nat->V}{i k o:Nat}{n:V}{C e:Bool}(h:fI P i n k C e o)(A:V.dot n (P k-P i)<0):fI P i n (k+1) true e o:=by
 obtain⟨E,j,u⟩:=h;refine⟨by rw[kN];simp[A],by rw[kN,j];simp;omega,?_⟩;rw[u,mZ,if_neg (by simp;omega),Nat.or_zero]
theorem fI.pos{P:Nat->V}{i k o:Nat}{n:V}{e C:Bool}(h:fI P i n k e C o)(A:0<V.dot n (P k-P i)):fI P i n (k+1) e true o:=by
 obtain⟨j,E,u⟩:=h;refine⟨by rw[kN,j];simp;omega,by rw[kN];simp[A],?_⟩;rw[u,mZ,if_neg (by simp;omega),Nat.or_zero]
theorem fI.zer{P:Nat->V}{i k o:Nat}{n:V}{e j:Bool}(h:fI P i n k e j o)(E:V.dot n (P k-P i)=0):fI P i n (k+1) e j (o ||| 2 ^ k):=by
 obtain⟨u,A,C⟩:=h;refine⟨by rw[kN,u];simp;omega,by rw[kN,A];simp;omega,?_⟩;rw[C,mZ,if_pos (by simp[E])]
theorem shl_or(o k:Nat)(u:o<18446744073709551616)(j:k<64):bits .or .u64 (o:Int) (IntKind.u64.wrap ((2:Int) ^ k))=((o ||| 2 ^ k:Nat):Int):=by
 have i:2 ^ k<18446744073709551616:=Nat.lt_of_lt_of_le (Nat.pow_lt_pow_right I j) ν;have e:IntKind.u64.wrap ((2:Int) ^ k)=((2 ^ k:Nat):Int):=by
  rw[IntKind.wrap_u64,show((2:Int) ^ k)=((2 ^ k:Nat):Int) by simp];generalize 2 ^ k=x at *;omega
 rw[e,u64_or_nat _ _ u i]
theorem fI.lt{P:Nat->V}{i k o:Nat}{n:V}{j u:Bool}(h:fI P i n k j u o)(e:k<=64):o<18446744073709551616:=by
 rw[h.2.2];exact Nat.lt_of_lt_of_le (mr _ _) (Nat.pow_le_pow_right I e)
theorem fI.done{P:Nat->V}{i j m k o:Nat}{n:V}{H J:Bool}(h:fI P i n k H J o)(E:tri P i j m=n)(h0:n≠V.zero):
 (J=false->H=true->fF P k i j m n/\o=cA P k n i)/\(J=true->H=false->fF P k i j m (-n)/\o=cA P k (-n) i)/\(H=J->∀W,¬ fF P k i j m W):=by
 obtain⟨F,G,R⟩:=h;refine⟨fun a b=>?_,fun a b=>?_,fun e W X=>?_⟩
 ·subst a;subst b
  refine⟨⟨by rw[E];exact h0,.inl E.symm,fun q u=>?_,by simpa using F⟩,R⟩;have:¬ 0<V.dot n (P q-P i):=fun A=>by have:=G.mpr ⟨q,u,A⟩;cases this
  omega
 ·subst a;subst b
  refine⟨⟨by rw[E];exact h0,.inr (by rw[E]),fun q u=>?_,?_⟩,?_⟩
  ·rw[bG]
   have:¬ V.dot n (P q-P i)<0:=fun A=>by have:=F.mpr ⟨q,u,A⟩;cases this
   omega
  ·obtain⟨q,u,A⟩:=G.mp rfl
   exact⟨q,u,by rw[bG];omega⟩
  ·rw[R];unfold cA
   exact jw _ _ _ fun q _=>by rw[bG];congr 1;simp
 ·obtain⟨_,U,ha,q,u,A⟩:=X
  rw[E]at U
  rcases U with rfl|rfl
  ·have t1:=F.mpr ⟨q,u,A⟩
   obtain⟨Q,C,L⟩:=G.mp (by rw[<-e];exact t1);have:=ha Q C;omega
  ·rw[bG]at A
   have t2:=G.mpr ⟨q,u,by omega⟩;obtain⟨Q,C,L⟩:=F.mp (by rw[e];exact t2);have:=ha Q C;rw[bG]at this;omega
theorem nc:(prog.info? 212).map (·.size)=some 4:=by kernel_rfl
theorem side_any(a:Option Addr)(len br i j m:Nat)(P:Nat->V)(w:World)(hP:Pts w a len br P)(c3:len<=64)(U:∀i,i<len->LeV 4096 (P i))(hi:i<len)(hj:j<len)(hm:m<len):
 Calls prog 211 #[.slice a len br,.int .i64 (i:Int),.int .i64 (j:Int),.int .i64 (m:Int)] w fun e w'=>RetSide P len i j m e/\Bl w w':=by
 obtain⟨W,hW,b1,hB,hS⟩:=aB w #[.int .i64 0,.int .i64 0,.int .i64 0,.int .u64 0] 212;obtain⟨HP,HN,B1,HB,HS,HW⟩:=η6 (hP.below hB) U b1 hB hS hW;have i1:((i:Nat):Int)<(len:Int):=I;have i2:((j:Nat):Int)<(len:Int):=I;have i3:((m:Nat):Int)<(len:Int):=I;obtain⟨b,off,rfl,hb,hc,E⟩:=HP.o.cells I;obtain⟨a3,a4,a5⟩:=E i hi;obtain⟨a6,a7,a8⟩:=E j hj;obtain⟨a9,ba,bc⟩:=E m hm;have ni:=HN.o i hi;have nj:=HN.o j hj;have nm:=HN.o m hm;have ht:tri P i j m=V.cross (P j-P i) (P m-P i):=rfl;generalize b4:P i=C at ni ht a3 a4 a5;have bl:=O b4;generalize cy:P j=pj at nj ht a6 a7 a8;generalize cB:P m=pm at nm ht a9 ba bc;have KP:Hid (∀w',Bl W w'->Γ9 w' b (off+j*3) (.int .i64 pj.x) b (off+j*3+1) (.int .i64 pj.y) b (off+j*3+2) (.int .i64 pj.z) b (off+i*3) (.int .i64 C.x) b (off+i*3+1) (.int .i64 C.y) b (off+i*3+2) (.int .i64 C.z) b (off+m*3) (.int .i64 pm.x) b (off+m*3+1) (.int .i64 pm.y) b (off+m*3+2) (.int .i64 pm.z)):=fun w' h =>
  ⟨keepC a6 h hb,keepC a7 h hb,keepC a8 h hb,keepC a3 h hb,keepC a4 h hb,keepC a5 h hb,keepC a9 h hb,keepC ba h hb,keepC bc h hb⟩
 have b9:=nj.sub ni;have ca:=nm.sub ni;have L0:=O (Below.refl W.heap.size W);have c6:Hid (Bl W W.drew):=L0.o.drew;have a0:=fun v=>lL (pj-C) (pm-C) 8192 8192 v b9 ca I
 have X:=b9.cross ca;rw[<-ht]at a0 X;generalize b6:tri P i j m=u at *;have ar:=O b6;have bf:Hid (∀v,Calls prog 163 #[dP (pj-C),dP (pm-C)] v fun e w'=>e=.returned (.agg #[.int .i64 u.x,.int .i64 u.y,.int .i64 u.z])/\Bl v w'):=a0;have bi:=O X;have cr:=KP.o _ L0.o;clear hP U b1 hB hS hW E a3 a4 a5 a6 a7 a8 a9 ba bc ht b6 a0 X b4 cy cB
 go_enter func211,ntmps211
 go_upto_region 1 with fail
 rw[HW.o]
 go_cut [10] from 17 to 35 (fun pv wx=>∃nb:Nat,pv=.pointer (some ⟨nb,0,none⟩)/\Hid (Box wx nb #[.int .i64 u.x,.int .i64 u.y,.int .i64 u.z] 77)/\Hid (Bl W wx)/\Hid (W.heap.size<=nb))
 case first =>
  go_wp2_with fail
  go_region_held3 (fun w'=>w'.cell? ⟨b,off+j*3,none⟩=some (.int .i64 pj.x)/\w'.cell? ⟨b,off+j*3+1,none⟩=some (.int .i64 pj.y)/\w'.cell? ⟨b,off+j*3+2,none⟩=some (.int .i64 pj.z)/\w'.cell? ⟨b,off+i*3,none⟩=some (.int .i64 C.x)/\w'.cell? ⟨b,off+i*3+1,none⟩=some (.int .i64 C.y)/\w'.cell? ⟨b,off+i*3+2,none⟩=some (.int .i64 C.z)/\w'.cell? ⟨b,off+m*3,none⟩=some (.int .i64 pm.x)/\w'.cell? ⟨b,off+m*3+1,none⟩=some (.int .i64 pm.y)/\w'.cell? ⟨b,off+m*3+2,none⟩=some (.int .i64 pm.z))
   (with_reducible exact(KP.o _ dZ))
   (first
    | (have _g:=L2.o;clear _g;go_at_call 163;refine(bf.o _).mono ?_;rintro e w3 ⟨rfl,ac⟩
       have L3:=O (show Bl W w3 from ae dZ ac ρ)
       first
        | (have F:=O (show Box w3 _ _ _ from by with_reducible exact F.o.to ac)
           obtain⟨n0,n1,n2,n3,n4,n5⟩:=F.o.three)
        | (have F:=O (show Box w3 _ #[.int .i64 0,.int .i64 0,.int .i64 0] 77 from by with_reducible exact(Box.new _ _ _ _ rfl).below ac (by simp))
           have NL:=O L2.o.size;obtain⟨n0,n1,n2,n3,n4,n5⟩:=F.o.three)
        | skip
       clear ac)
    | (have _g:=L1.o;clear _g;go_at_call 164;refine(gJ pm C 4096 4096 _ nm ni I).mono ?_;rintro e w2 ⟨rfl,G⟩
       have L2:=O (show Bl W w2 from ae dZ G ρ)
       first
        | (have F:=O (show Box w2 _ _ _ from by with_reducible exact F.o.to G)
           obtain⟨n0,n1,n2,n3,n4,n5⟩:=F.o.three)
        | (have F:=O (show Box w2 _ #[.int .i64 0,.int .i64 0,.int .i64 0] 77 from by with_reducible exact(Box.new _ _ _ _ rfl).below G (by simp))
           have NL:=O L1.o.size;obtain⟨n0,n1,n2,n3,n4,n5⟩:=F.o.three)
        | skip
       clear G)
    | (go_at_call 164;refine(gJ pj C 4096 4096 _ nj ni I).mono ?_;rintro e w1 ⟨rfl,A⟩
       have L1:=O (show Bl W w1 from ae dZ A ρ)
       first
        | (have F:=O (show Box w1 _ _ _ from by with_reducible exact F.o.to A)
           obtain⟨n0,n1,n2,n3,n4,n5⟩:=F.o.three)
        | (have F:=O (show Box w1 _ #[.int .i64 0,.int .i64 0,.int .i64 0] 77 from by with_reducible exact(Box.new _ _ _ _ rfl).drew.below A (Box.new _ _ _ _ rfl).drew.lt)
           have NL:=O L0.o.size;obtain⟨n0,n1,n2,n3,n4,n5⟩:=F.o.three)
        | skip
       clear A))
  all_goals
   go_wp2_with fail
   go_meet
  all_goals first
   | (with_reducible exact⟨_,rfl,O (Box.new _ _ _ _ rfl),O (L3.o.alloc L3.o.size _),O L3.o.size⟩)
   | (with_reducible exact⟨_,rfl,O (F.o.set3 _ _ _),O (((L3.o.setCell NL.o _).setCell NL.o _).setCell NL.o _),O NL.o⟩)
 case rest =>
  obtain⟨nb,rfl,ad,R,X⟩:=hcut;have an:=O HP.o;obtain⟨c0,c1,c2,-⟩:=ad.o.three;have cn:=eq46;have av:=B1.o.below R.o (ψ HS.o);obtain⟨d0,d1,d2,d3,d4,d5,d6,d7⟩:=av.four;have L:=O av;clear cr KP bf av;by_cases hz:u=V.zero
  ·rw[hz]at c0 c1 c2
   simp only[V.zero]at c0 c1 c2;have HZ:=O hz;clear hz;go_wp2;exact bS results211 w.heap.size (L.o.set4 (.int .i64 0) (.int .i64 0) (.int .i64 0) (.int .u64 0)) _ rfl underlying212 rfl nc rfl
    ⟨.inr ⟨fun n h=>h.1 (by rw[ar.o];exact HZ.o),V.zero,0,rfl⟩,aW (ae HB.o R.o (ψ HS.o)) ρ _ _ _ _⟩
  ·have cD:(u.x == 0&&u.y == 0&&u.z == 0)=false:=by
    rw[Bool.eq_false_iff];intro h;simp at h;exact hz (V.ext' h.1.1 h.1.2 h.2)
   have HZ:=O hz;clear hz
   go_wp2_with fail
   obtain⟨Wp,bv,bp,bs,bt⟩:=aB wc #[.int .i64 u.x,.int .i64 u.y,.int .i64 u.z,.int .u64 0] 212;rw[bv];obtain⟨BP,cg,c4⟩:=η3 bp bs bt;have bI:nb<wc.heap.size:=ad.o.lt;clear bv bp bs bt d0 d1 d2 d3 d4 d5 d6 d7 c0 c1 c2 cn cD
   go_loopw [12,13,44] (fun lv mv v wr=>∃k l1 l2 o,k<=len/\lv=.bool l1/\mv=.bool l2/\v=.int .i64 (k:Nat)/\Hid (fI P i u k l1 l2 o)/\Hid (Box wr wc.heap.size #[.int .i64 u.x,.int .i64 u.y,.int .i64 u.z,.int .u64 (o:Nat)] 212)/\Hid (Bl wc wr)) (fun _ _ v _=>len-(intOf v).toNat)
   case atStart=>exact⟨0,false,false,0,Nat.zero_le _,rfl,rfl,rfl,fI.zero P i u,BP.o,cg.o⟩
   case round =>
    obtain⟨k,l1,l2,o,hk,rfl,rfl,rfl,HI,HX,HR⟩:=hrel;by_cases h0:k=len
    ·have hn:¬ (k:Int)<(len:Int):=I
     have H0:=O h0;clear h0;have aw:=L.o.to HR.o;have b0:=ad.o.below HR.o bI;obtain⟨x0,x1,x2,x3,x4,x5,x6,x7⟩:=HX.o.four;obtain⟨y0,y1,y2,y3,y4,y5,y6,y7⟩:=aw.four;have ao:=O aw;have cu:w.heap.size≠wc.heap.size:=by have:=L.o.lt;omega
     have bg:Hid (fI P i u len l1 l2 o):=by rw[<-H0.o];exact HI.o
     have ag:=ae (ae HB.o R.o (ψ HS.o)) HR.o (by have:=HS.o;have:=HB.o.size;omega);have Q:=O ag;clear aw ag;cases l2
     ·go_wp2
      refine bS results211 w.heap.size (ao.o.set4 (.int .i64 u.x) (.int .i64 u.y) (.int .i64 u.z) (.int .u64 (o:Nat))) _ rfl underlying212 rfl nc rfl
       ⟨?_,aW Q.o ρ _ _ _ _⟩
      have hd:=bg.o.done ar.o HZ.o;cases l1
      ·exact .inr ⟨hd.2.2 rfl,u,o,rfl⟩
      ·have:=hd.1 rfl rfl
       exact .inl ⟨u,this.1,by rw[<-this.2];rfl⟩
     ·obtain⟨c0,c1,c2,-⟩:=b0.three
      go_wp2_with fail
      have hcs:∀v,Calls prog 164 #[.agg #[.int .i64 0,.int .i64 0,.int .i64 0],.agg #[.int .i64 u.x,.int .i64 u.y,.int .i64 u.z]] v fun e w'=>e=.returned (.agg #[.int .i64 (-u).x,.int .i64 (-u).y,.int .i64 (-u).z])/\Bl v w':=fun v =>
       (gJ V.zero u 1 200000000 v ⟨⟨by decide,by decide⟩,⟨by decide,by decide⟩,by decide,by decide⟩ (bi.o.mono I) I).mono fun e w' h=>⟨by
        rw[h.1];show Ending.returned (.agg #[.int .i64 (0-u.x),.int .i64 (0-u.y),.int .i64 (0-u.z)])=_;simp only[V.neg_x,V.neg_y,V.neg_z,Int.zero_sub],h.2⟩
      refine(hcs _).mono ?_;clear hcs;rintro e w1 ⟨rfl,A⟩;have az:=HX.o.to A;have ay:=ao.o.to A;obtain⟨c5,ce⟩:=η2 az ay;obtain⟨x0,x1,x2,x3,x4,x5,x6,x7⟩:=az.four;obtain⟨y0,y1,y2,y3,y4,y5,y6,y7⟩:=ay.four;have bz:=ae Q.o A (ψ Q.o.size);obtain⟨cd,ch⟩:=η2 bz cu;clear az ay bz A;generalize b3:-u=ng at *;have ci:=O b3;clear b3;go_wp2;refine bS results211 w.heap.size ((ce.o.other3 ch.o (.int .i64 ng.x) (.int .i64 ng.y) (.int .i64 ng.z)).set4 (.int .i64 ng.x) (.int .i64 ng.y) (.int .i64 ng.z) (.int .u64 (o:Nat))) _ rfl underlying212 rfl nc rfl
       ⟨?_,aW (gg cd.o (ψ L.o.lt) _ _ _) ρ _ _ _ _⟩
      have hd:=bg.o.done ar.o HZ.o;rw[ci.o]at hd;cases l1
      ·have:=hd.2.1 rfl rfl
       exact .inl ⟨ng,this.1,by rw[<-this.2];rfl⟩
      ·exact .inr ⟨hd.2.2 rfl,ng,o,rfl⟩
    ·have c8:(k:Int)<(len:Int):=I
     have bV:k<len:=I;clear h0;obtain⟨b',cc,e',ab,cq,E⟩:=(an.o.below (ae R.o HR.o ρ)).cells I;cases e';obtain⟨q0,q1,q2⟩:=E k bV;clear E;go_wp2;obtain⟨J,bu,bk,aa,cp⟩:=aB wr #[.int .i64 (P k).x,.int .i64 (P k).y,.int .i64 (P k).z] 77;rw[bu];have af:=ae (ae R.o HR.o ρ) aa ρ;have H:=ae HR.o aa ρ;have b7:=HX.o.to aa;obtain⟨b',cc,e',ab,cq,E⟩:=(an.o.below af).cells I;cases e';obtain⟨r0,r1,r2⟩:=E i hi;obtain⟨s0,s1,s2,-⟩:=bk.three;obtain⟨t0,t1,t2,-⟩:=(ad.o.below H bI).three;have nk:=HN.o k bV;rw[bl.o]at r0 r1 r2;generalize b5:P k=Y at *;have cl:=O b5;have a1:wr.heap.size<J.heap.size:=I;have a2:nb<J.heap.size:=by have:=H.size;omega
     have KQ:Hid (∀w',Bl J w'->w'.cell? ⟨nb,0,none⟩=some (.int .i64 u.x)/\w'.cell? ⟨nb,1,none⟩=some (.int .i64 u.y)/\w'.cell? ⟨nb,2,none⟩=some (.int .i64 u.z)/\w'.cell? ⟨wr.heap.size,0,none⟩=some (.int .i64 Y.x)/\w'.cell? ⟨wr.heap.size,1,none⟩=some (.int .i64 Y.y)/\w'.cell? ⟨wr.heap.size,2,none⟩=some (.int .i64 Y.z) /\
      Γ3 w' b (off+i*3) (.int .i64 C.x) b (off+i*3+1) (.int .i64 C.y) b (off+i*3+2) (.int .i64 C.z)):=fun w' h =>
      ⟨keepC t0 h a2,keepC t1 h a2,keepC t2 h a2,keepC s0 h a1,keepC s1 h a1,keepC s2 h a1,keepC r0 h ab,keepC r1 h ab,keepC r2 h ab⟩
     have M0:=O (Below.refl J.heap.size J);have cm:Hid (Bl J J.drew):=M0.o.drew;obtain⟨be,bm⟩:=η2 H b7;have cF:=nk.sub ni;have cU:LeV 200000000 u:=bi.o.mono I;clear bu aa cp E r0 r1 r2 s0 s1 s2 t0 t1 t2 af H b7 b5 q0 q1 q2;have cs:=KQ.o _ M0.o
     go_region_held3 (fun w'=>w'.cell? ⟨nb,0,none⟩=some (.int .i64 u.x)/\w'.cell? ⟨nb,1,none⟩=some (.int .i64 u.y)/\w'.cell? ⟨nb,2,none⟩=some (.int .i64 u.z)/\w'.cell? ⟨wr.heap.size,0,none⟩=some (.int .i64 Y.x)/\w'.cell? ⟨wr.heap.size,1,none⟩=some (.int .i64 Y.y)/\w'.cell? ⟨wr.heap.size,2,none⟩=some (.int .i64 Y.z) /\
      Γ3 w' b (off+i*3) (.int .i64 C.x) b (off+i*3+1) (.int .i64 C.y) b (off+i*3+2) (.int .i64 C.z))
      (with_reducible exact(KQ.o _ dZ))
      (first
       | (have _g:=M1.o;clear _g;go_at_call 166;refine(mG u (Y-C) 200000000 8192 _ cU cF I).mono ?_;rintro e w2 ⟨rfl,G⟩
          have M2:Hid (Bl J w2):=ae M1.o G ρ;clear G)
       | (go_at_call 164;refine(gJ Y C 4096 4096 _ nk ni I).mono ?_;rintro e w1 ⟨rfl,A⟩
          have M1:Hid (Bl J w1):=ae cm.o A ρ;clear A))
     have ap:=O (ae be.o M2.o ρ);have b8:=bm.o.to M2.o;have au:=O b8;clear cs;have hd:=O (show V.dot u (Y-C)=V.dot u (Y-C)from rfl);generalize bF:V.dot u (Y-C)=d at *;have HD:Hid (V.dot u (P k-P i)=d):=by rw[cl.o,bl.o];exact bF
     clear hd bF
     rcases Int.lt_trichotomy d 0 with hl|hl|hl
     ·have HL:=O hl
      go_wp2;go_round
      case rel=>exact⟨k+1,true,l2,o,by omega,rfl,rfl,rfl,HI.o.neg (by rw[HD.o];exact HL.o),au.o,ap.o⟩
      case measure=>exact μ
     ·have HL:=O hl
      obtain⟨x0,x1,x2,x3,x4,x5,x6,x7⟩:=b8.four
      go_wp2_with fail
      have cV:(k:Int)<64:=I;have c7:(0:Int)<=(k:Int):=I;go_region;have cv:=shl_or o k (HI.o.lt I) I;go_wp2;go_round
      case rel=>exact⟨k+1,l1,l2,o ||| 2 ^ k,by omega,rfl,rfl,rfl,HI.o.zer (by rw[HD.o];exact HL.o),(by rw[<-cv];exact(au.o.set 3 _).drew),(ap.o.setCell (by show wc.heap.size<=wc.heap.size;omega) _).drew⟩
      case measure=>exact μ
     ·have HL:=O hl
      have X:¬ d<0:=I;go_wp2;go_round
      case rel=>exact⟨k+1,l1,true,o,by omega,rfl,rfl,rfl,HI.o.pos (by rw[HD.o];exact HL.o),au.o,ap.o⟩
      case measure=>exact μ
def bw(M k:Nat):List Nat:=(List.range k).filter fun i=>M.testBit i
theorem bitsOf_mask(p:Nat->Bool)(N:Nat)(h:N<=64):bw (j6 p N) 64=(List.range N).filter p:=by
 have:∀d,bw (j6 p N) (N+d)=(List.range N).filter p:=by
  intro d
  induction d with
  | zero =>
   unfold bw;refine List.filter_congr fun i hi=>?_
   have:=List.mem_range.mp hi;rw[j5];simp;intro;omega
  | succ d ih =>
   unfold bw at *;rw[<-Nat.add_assoc,List.range_succ,List.filter_append,ih,List.filter_cons_of_neg (by rw[j5];simp;intro;omega),List.filter_nil,List.append_nil]
 have e:=this (64-N)
 rwa [show N+(64-N)=64 by omega]at e
theorem jF(M k t:Nat)(A:k<=t)(h:∀i,k<=i->i<t->M.testBit i=false):bw M t=bw M k:=by
 have:∀d,(∀i,k<=i->i<k+d->M.testBit i=false)->bw M (k+d)=bw M k:=by
  intro d
  induction d with
  | zero=>intro _;rfl
  | succ d ih =>
   intro h;have:=ih fun i j u=>h i j I
   unfold bw at *;rw[<-Nat.add_assoc,List.range_succ,List.filter_append,this,List.filter_cons_of_neg (by rw[h (k+d) I I];simp),List.filter_nil,List.append_nil]
 have e:=this (t-k) fun i j u=>h i j I
 rwa [show k+(t-k)=t by omega]at e
theorem bitsOf_succ(M t:Nat)(h:M.testBit t=true):bw M (t+1)=bw M t++[t]:=by
 unfold bw;rw[List.range_succ,List.filter_append,List.filter_cons_of_pos h,List.filter_nil]
theorem lh(M k:Nat):(bw M k).length<=k:=by
 unfold bw;have:=List.length_filter_le (fun i=>M.testBit i) (List.range k)
 simpa using this
def dF(M k m:Nat):Prop:=∀i,m.testBit i=(decide (k<=i)&&M.testBit i)
theorem dF.start(M:Nat):dF M 0 M:=fun i=>by simp
theorem dF.zero{M k:Nat}(h:dF M k 0)(j:k<=64):bw M 64=bw M k:=
 jF M k 64 j fun i e _=>by
  have:=h i;rw[Nat.zero_testBit]at this
  simpa[e]using this.symm
theorem lowest{m:Nat}(h:m≠0):∃t,m.testBit t=true/\∀i,i<t->m.testBit i=false:=by
 obtain⟨i,hi⟩:=Nat.exists_testBit_of_ne_zero h;revert hi
 induction i using Nat.strongRecOn with
 | _ i ih =>
  intro hi;by_cases e:∃j,j<i/\m.testBit j=true
  ·obtain⟨j,e,hb⟩:=e;exact ih j e hb
  ·exact⟨i,hi,fun j h=>by
    by_cases hb:m.testBit j=true
    ·exact absurd ⟨j,h,hb⟩ e
    ·simpa using hb⟩
theorem dF.step{M k m t:Nat}(h:dF M k m)(E:M<18446744073709551616)(C:m.testBit t=true)(A:∀i,i<t->m.testBit i=false):
 k<=t/\t<64/\M.testBit t=true/\bw M (t+1)=bw M k++[t]/\dF M (t+1) (m &&& (m-1)):=by
 have u:=h t;rw[C]at u;have e:k<=t/\M.testBit t=true:=by simpa using u.symm
 have j:t<64:=by
  rcases Nat.lt_or_ge t 64 with h|h
  ·exact h
  ·have:=e.2
   rw[Nat.testBit_lt_two_pow (Nat.lt_of_lt_of_le E (Nat.pow_le_pow_right (n:=2) I h:2 ^ 64<=2 ^ t))]at this;cases this
 refine⟨e.1,j,e.2,?_,fun i=>?_⟩
 ·rw[bitsOf_succ M t e.2,jF M k t e.1 fun i a b=>by
   have:=h i;rw[A i b]at this;simpa[a]using this.symm]
 ·rw[low_bit C A,h i]
  by_cases hi:t<i
  ·simp[hi,show k<=i by omega,show t+1<=i by omega]
  ·simp[hi,show ¬ t+1<=i by omega]
theorem dF.lt{M k m:Nat}(h:dF M k m)(e:M<18446744073709551616):m<18446744073709551616:=by
 refine Nat.lt_pow_two_of_testBit (n:=64) m fun i hi=>?_
 rw[h i,Nat.testBit_lt_two_pow (Nat.lt_of_lt_of_le e (Nat.pow_le_pow_right (n:=2) I hi:2 ^ 64<=2 ^ i))];simp
theorem dF.end{M k m:Nat}(h:dF M k m)(h0:m=0)(e:k<=64):bw M 64=bw M k:=by subst h0;exact h.zero e
def encO:Option Nat->Int
 | none=>-1
 | some b=>b
theorem pick_mem(P:Nat->V)(n:V)(a:Nat)(l:List Nat)(o:Option Nat)(b:Nat)(h:l.foldl (pick P n a) o=some b):b∈l\/o=some b:=by
 induction l generalizing o with
 | nil=>exact .inr h
 | cons q l ih =>
  rcases ih _ h with e|e
  ·exact .inl (List.mem_cons_of_mem _ e)
  ·unfold pick at e
   by_cases i:q=a
   ·rw[if_pos i]at e;exact .inr e
   ·rw[if_neg i]at e
    cases o with
    | none=>cases e;exact .inl (by simp)
    | some c =>
     dsimp only at e
     split at e
     ·cases e;exact .inl (by simp)
     ·exact .inr e
theorem pick_take(P:Nat->V)(n:V)(a:Nat)(l:List Nat)(i:Nat)(hi:i<l.length):(l.take (i+1)).foldl (pick P n a) none=pick P n a ((l.take i).foldl (pick P n a) none) (l.getD i 0):=by
 rw[List.take_succ_eq_append_getElem hi,List.foldl_append];simp[hi]
theorem and_nat(m:Nat)(h0:m≠0)(i:m<18446744073709551616):bits .and .u64 (m:Int) ((m:Int)-1)=((m &&& (m-1):Nat):Int):=by
 have e:(m:Int)-1=((m-1:Nat):Int):=I;rw[e,u64_and_nat _ _ i I]
theorem ring_any(a:Option Addr)(len de b0 M:Nat)(n:V)(P:Nat->V)(w:World)(hT:Tab w)(hP:Pts w a len de P)(a8:len<=64)(a9:∀i,i<len->LeV 4096 (P i))(hn:LeV 200000000 n)(hM:M=cA P len n b0)(hF:Face P len n b0)(hS:Sorted P len):
 Calls prog 168 #[.slice a len de,mW n M] w fun e w'=>RetInts w' w.heap.size e (ring P (aI P len n b0) n)/\Bl w w':=by
 have eg:bw M 64=aI P len n b0:=by rw[hM];exact bitsOf_mask _ _ a8
 obtain⟨kp,ec,d7,d8,d9,eb⟩:=mY (hF.flat hS.inj) hF.two (hF.head hS);have HK:Hid (kp=per (nx P (aI P len n b0) n) ((aI P len n b0).headD 0) (aI P len n b0).length 1/\1<=kp/\kp<1+(aI P len n b0).length/\orb (nx P (aI P len n b0) n) ((aI P len n b0).headD 0) kp=(aI P len n b0).headD 0/\∀i,1<=i->i<kp->orb (nx P (aI P len n b0) n) ((aI P len n b0).headD 0) i≠(aI P len n b0).headD 0):=⟨ec,d7,d8,d9,eb⟩;obtain⟨HF,bg,da⟩:=η3 hF hS eg;clear eg ec d7 d8 d9 eb hF hS;obtain⟨W,hW,b1,hB,hS⟩:=aB w #[.int .i64 n.x,.int .i64 n.y,.int .i64 n.z,.int .u64 (M:Int)] 212;obtain⟨HT,HP,HN,B1,HB,HS,HW⟩:=η7 (hT.below hB hT.1) (hP.below hB) a9 b1 hB hS hW;have bv:M<18446744073709551616:=by rw[hM];exact Nat.lt_of_lt_of_le (mr _ _) (Nat.pow_le_pow_right I a8)
 obtain⟨HM,ey⟩:=η2 bv hM;obtain⟨x0,x1,x2,x3,-⟩:=b1.four;obtain⟨i0,bz,eq,er,et⟩:=info_parts sF;clear hT hP a9 b1 hB hS hW bv hM;unfold mW
 go_enter func168,ntmps168
 go_wp2_with fail
 rw[HW.o]
 go_loopw [5,6] (fun ov mv wr=>∃k m:Nat,k<=64/\mv=.int .u64 (m:Int)/\Hid (dF M k m)/\Hid (bo wr W.heap.size ov (bw M k))/\Hid (Bl W wr)) (fun _ mv _=>(intOf mv).toNat)
 case atStart=>exact⟨0,M,by omega,rfl,dF.start M,World.ownsRow_nil _ _ _ _,Below.refl _ _⟩
 case round =>
  obtain⟨k,m,hk,rfl,HL,HO,HR⟩:=hrel;by_cases h0:m=0
  ·have e9:((m:Int) != 0)=false:=by rw[h0];rfl
   have hO:bo wr W.heap.size u5 (aI P len n b0):=by
    have:=HO.o;rwa [<-HL.o.end h0 hk,da.o]at this
   obtain⟨ao,co,rfl,ho⟩:=hO.ints;have c8:=O ho;obtain⟨L,az⟩:=χ (aI P len n b0);have bf:=O az;rw[az]at ho c8 HK;have dx:0<L.length:=by
    have:=(HF.o.head bg.o).1;rw[az]at this;exact List.length_pos_of_mem this
   have fr:L.length<=64:=by
    rw[<-az];unfold aI;exact Nat.le_trans (List.length_filter_le _ _) (by simpa using a8)
   obtain⟨b,off,rfl,hb,hc,aa⟩:=ho.cells dx;have dz:=aa 0 dx;have e0:(L.map fun(i:Nat)=>(i:Int)).getD 0 0=((L.headD 0:Nat):Int):=by cases L<;>simp
   rw[e0,Nat.add_zero]at dz;have gr:(0:Int)<(L.length:Int):=I;rw[az];obtain⟨a0,b7⟩:=χ (L.headD 0);rw[b7]at dz HK;have cU:=O b7;have ge:=HR.o.size;obtain⟨w1,rfl⟩:=φ wr;clear aa ho hO az h0 HO HL da ey e0 b7
   go_wp2_with fail
   obtain⟨Wo,bl⟩:=χ (w1.alloc (.cells #[.int .i64 (a0:Int)] 3));rw[bl];have ba:bo Wo w1.heap.size (.slice (some ⟨w1.heap.size,0,none⟩) 1 1) ((List.range 1).map (orb (nx P L n) a0)):=by
    rw[<-bl];exact World.ownsRow_lit _ _ 1 ρ (by unfold maxLen;omega) rfl
   have ds:Bl w1 Wo:=by rw[<-bl];exact β.alloc ρ _
   obtain⟨ez,ex⟩:=η2 ba ds;clear ba ds bl
   go_loopw [7] (fun ov w2=>∃j,1<=j/\j<=kp/\Hid (bo w2 w1.heap.size ov ((List.range j).map (orb (nx P L n) a0)))/\Hid (Bl w1 w2)) (fun ov _=>kp-(match ov with|.slice _ n _=>n|_=>0))
   case atStart=>exact⟨1,Nat.le_refl _,HK.o.2.1,ez.o,ex.o⟩
   case round =>
    obtain⟨j,go,gp,HO,ar⟩:=hrel;obtain⟨j,rfl⟩:∃i,j=i+1:=⟨j-1,by omega⟩;obtain⟨ag,cg,rfl,bt⟩:=HO.o.ints;have a4:((List.range (j+1)).map (orb (nx P L n) a0)).length=j+1:=by simp
    rw[a4]at bt⊢;obtain⟨g,og,rfl,hg,gi,cd⟩:=bt.cells I;have g0:=cd 0 I;have g1:=cd j I;have dk:(((List.range (j+1)).map (orb (nx P L n) a0)).map fun(i:Nat)=>(i:Int)).getD 0 0=(a0:Int):=by simp[orb]
    have dl:(((List.range (j+1)).map (orb (nx P L n) a0)).map fun(i:Nat)=>(i:Int)).getD j 0=((orb (nx P L n) a0 j:Nat):Int):=by simp
    rw[dk,Nat.add_zero]at g0;rw[dl]at g1;obtain⟨X,ce⟩:=χ (orb (nx P L n) a0 j);rw[ce]at g1;obtain⟨c7,fq,c9⟩:=η3 ce bt (c8.o.below ar.o);have gq:(j:Int)<((j+1:Nat):Int):=I;have gn:(0:Int)<((j+1:Nat):Int):=I;have f2:j<=64:=by have:=HK.o.2.2.1;omega
    obtain⟨w2,rfl⟩:=φ wr;have a3:=O a4;clear cd bt a4 dk dl ce
    go_wp2_with fail
    go_loopw [9,40] (fun nv iv wi=>∃i o,i<=L.length/\iv=.int .i64 (i:Nat)/\nv=.int .i64 (encO o)/\Hid ((L.take i).foldl (pick P n X) none=o)/\Hid (Bl w2 wi)) (fun _ iv _=>L.length-(intOf iv).toNat)
    case atStart=>exact⟨0,none,Nat.zero_le _,rfl,rfl,by exact rfl,Below.refl _ _⟩
    case round =>
     obtain⟨i,o,hi,rfl,rfl,af,J⟩:=hrel;obtain⟨H,rfl⟩:=φ wr;have bc:gh P L X:=by
      have:=dW (HF.o.flat bg.o.inj) HF.o.two (HF.o.head bg.o) j;rw[bf.o,cU.o,c7.o]at this;exact this
     have HV:=O bc;clear bc;by_cases h0:i=L.length
     ·have fb:o=some (orb (nx P L n) a0 (j+1)):=by
       have dB:=HF.o.flat bg.o.inj;have h2:=HF.o.two;rw[bf.o]at dB h2;have:=(oQ dB HV.o (h2 _)).1;rw[<-af.o,h0,List.take_length,this];show _=some (nx P L n (orb (nx P L n) a0 j));rw[c7.o]
      subst fb;show Code.wp _ _ _ _ _;have hn:¬ (i:Int)<(L.length:Int):=I;have H0:=O h0;have gb:=keepC g0 J.o hg;obtain⟨nb,ch⟩:=χ (orb (nx P L n) a0 (j+1));rw[ch];have bV:=O ch;clear h0 ch;show Code.wp _ _ _ _ _;by_cases hend:nb=a0
      ·have bs:j+1=kp:=by
        refine Decidable.byContradiction fun fa=>?_
        exact HK.o.2.2.2.2 (j+1) I I (by rw[bV.o,hend])
       have be:=O bs;subst hend;clear bs;have cc:encO (some nb)=(nb:Int):=rfl;rw[cc];go_wp2;refine bodyPost_ret (results_tmp results168 _ _ _) rfl ⟨⟨_,rfl,?_⟩,?_⟩
       ·have G:w.heap.size<=w1.heap.size:=by have:=HS.o;have:=HR.o.size;omega
        have E:=bX (aC HO.o J.o) G;rw[bf.o];unfold ring;rw[cU.o,<-HK.o.1,<-be.o];unfold bo;rw[a3.o]at E⊢;exact E
       ·exact ae (ae (ae HB.o HR.o (ψ HS.o)) ar.o (by have:=HS.o;have:=HR.o.size;omega)) J.o (by have:=HS.o;have:=HR.o.size;have:=ar.o.size;omega)
      ·have bs:j+1<kp:=by
        refine Decidable.byContradiction fun fa=>hend ?_
        have:j+1=kp:=I;rw[<-bV.o,this];exact HK.o.2.2.2.1
       have cc:encO (some nb)=(nb:Int):=rfl;rw[cc];obtain⟨xs,eo⟩:=χ ((((List.range (j+1)).map (orb (nx P L n) a0)).map fun(i:Nat)=>Value.int .i64 (i:Int)));have dd:=O eo;clear eo;have a6:((nb:Int) == (a0:Int))=false:=by rw[beq_eq_false_iff_ne];omega
       have E:H.ownsRow w1.heap.size 3 1 (.slice (some ⟨g,og,none⟩) (j+1) cg) (j+1) xs:=by
        have:=aC HO.o J.o;rw[a3.o,dd.o]at this;exact this
       have f4:=J.o.size;have f3:=ar.o.size
       go_wp2_with (at_builtin;refine wpList_append_own _ rfl _ _ 63 rfl w1.heap.size 3 i0 (.int .i64 0) 1 8 underlying63 bz eq er et rfl ν _ _ _ rfl (E.alloc _) ⟨H.heap.size,0,none⟩ 1 1 [.int .i64 (nb:Nat)] rfl rfl ?d1 ?d2 ?d3 ?d4 ?d5 ?_)
       case d2=>rfl
       case d3=>unfold maxLen;omega
       case d4=>omega
       case d5=>omega
       ·intro v' w4 R Q _
        have a1:bo w4 w1.heap.size v' ((List.range (j+1+1)).map (orb (nx P L n) a0)):=by
         unfold bo;rw[List.range_succ,List.map_append,List.map_append,List.length_append,List.map_singleton,List.map_singleton,bV.o,dd.o,a3.o];exact R
        have a5:Bl w1 w4:=((ae ar.o J.o ρ).alloc I _).grown Q (by simp;omega) (cz E);obtain⟨b3,bI⟩:=η2 a1 a5;obtain⟨av,cv,rfl,-⟩:=a1.ints;have be:=O bs;clear R Q E a1 a5;go_wp2;go_round
        case rel=>exact⟨j+1+1,by omega,by have:=be.o;omega,b3.o,bI.o⟩
        case measure=>show kp-((List.range (j+1+1)).map (orb (nx P L n) a0)).length<kp-(j+1);simp;have:=be.o;omega
     ·have a7:i<L.length:=I
      obtain⟨b',f5,e',gc,gf,aa⟩:=(c9.o.below J.o).cells I;cases e';have ei:=aa i a7;have dm:(L.map fun(i:Nat)=>(i:Int)).getD i 0=((L.getD i 0:Nat):Int):=by simp[a7]
      rw[dm]at ei;have a2:=O (pick_take P n X L i a7);have ej:L.getD i 0∈L:=by
       have:L.getD i 0=L[i]:=by simp[a7]
       rw[this];exact List.getElem_mem a7
      have ef:∀c,o=some c->c∈L:=fun c hc=>by
       have:=pick_mem P n X (L.take i) none c (by rw[af.o,hc])
       rcases this with h|h
       ·exact List.mem_of_mem_take h
       ·cases h
      obtain⟨eD,eB⟩:=η2 ej ef;have f1:(i:Int)<(L.length:Int):=I;obtain⟨q,hq⟩:=χ (L.getD i 0);rw[hq]at ei;have HQ:=O hq;clear aa dm ej ef hq h0;by_cases bu:q=X
      ·have a6:((q:Int) == (X:Int))=true:=by rw[beq_iff_eq];omega
       have ap:=O bu;clear bu;go_wp2;go_round
       case rel=>exact⟨i+1,o,by omega,rfl,rfl,(by show _=o;rw[a2.o,af.o,HQ.o];unfold pick;rw[if_pos ap.o]),J.o⟩
       case measure=>exact μ
      have a6:((q:Int) == (X:Int))=false:=by rw[beq_eq_false_iff_ne];omega
      have ap:=O bu;clear bu
      cases o with
      | none =>
       have he:encO none=-1:=rfl;rw[he];go_wp2;go_round
       case rel=>exact⟨i+1,some q,by omega,rfl,rfl,(by show _=some q;rw[a2.o,af.o,HQ.o];unfold pick;rw[if_neg ap.o]),J.o⟩
       case measure=>exact μ
      | some bb =>
       have he:encO (some bb)=(bb:Int):=rfl;rw[he];have ad:∀c,c∈L->c<len:=fun c hc=>by rw[<-bf.o]at hc;exact(aG.mp hc).1
       have lb:=ad bb (eB.o bb rfl);have lq:=ad q (by rw[<-HQ.o];exact eD.o);have ll:=ad X HV.o.1;have au:Bl W H:=ae (ae HR.o ar.o (ψ HR.o.size)) J.o (by have:=HR.o.size;have:=ar.o.size;omega);have eT:=O au;obtain⟨bp,op,ep,ac,gl,aa⟩:=(HP.o.below au).cells I;cases ep;obtain⟨cq,cr,cs⟩:=aa bb lb;obtain⟨cu,cy,pl2⟩:=aa X ll;obtain⟨cB,cD,cF⟩:=aa q lq;have nb:=HN.o bb lb;have nl:=HN.o X ll;have nq:=HN.o q lq;have eu:∀x y:V,LeV 4096 x->LeV 4096 y->∀v,Calls prog 164 #[.agg #[.int .i64 x.x,.int .i64 x.y,.int .i64 x.z],.agg #[.int .i64 y.x,.int .i64 y.y,.int .i64 y.z]] v fun e w'=>e=.returned (.agg #[.int .i64 (x-y).x,.int .i64 (x-y).y,.int .i64 (x-y).z])/\Bl v w':=
        fun x y hx hy v=>gJ x y 4096 4096 v hx hy I
       have hu:=eu _ _ nb nl;have hv:=eu _ _ nq nl;have lu:=nb.sub nl;have lv:=nq.sub nl;generalize em:P bb-P X=u at *;generalize en:P q-P X=Y at *;obtain⟨bi,bk,cl,cm,LU,b5⟩:=η6 em en hu hv lu lv;generalize P bb=pb at nb cq cr cs cl;generalize P X=pl at nl cu cy pl2 cl cm;generalize P q=pq at nq cB cD cF cm;have KP:Hid (∀w',Bl H w'->Γ9 w' bp (op+bb*3) (.int .i64 pb.x) bp (op+bb*3+1) (.int .i64 pb.y) bp (op+bb*3+2) (.int .i64 pb.z) bp (op+X*3) (.int .i64 pl.x) bp (op+X*3+1) (.int .i64 pl.y) bp (op+X*3+2) (.int .i64 pl.z) bp (op+q*3) (.int .i64 pq.x) bp (op+q*3+1) (.int .i64 pq.y) bp (op+q*3+2) (.int .i64 pq.z)):=fun w' h =>
        ⟨keepC cq h ac,keepC cr h ac,keepC cs h ac,keepC cu h ac,keepC cy h ac,keepC pl2 h ac,keepC cB h ac,keepC cD h ac,keepC cF h ac⟩
       have M0:=O (Below.refl H.heap.size H);have f6:Hid (Bl H H.drew):=M0.o.drew;have e6:=KP.o _ M0.o;have f8:((bb:Nat):Int)<(len:Int):=I;have f9:((X:Nat):Int)<(len:Int):=I;have ga:((q:Nat):Int)<(len:Int):=I;have gd:¬ (bb:Int)<0:=I;clear aa cq cr cs cu cy pl2 cB cD cF nb nl nq eu hu hv lu lv em en au g0 g1
       go_upto_region 15 with fail
       go_cut [12,13,40] from 40 to 90 (fun pu pv iv wx=>iv=.int .i64 (i:Int)/\∃nu nv:Nat,pu=.pointer (some ⟨nu,0,none⟩)/\pv=.pointer (some ⟨nv,0,none⟩)/\Hid (Box wx nu #[.int .i64 u.x,.int .i64 u.y,.int .i64 u.z] 77)/\Hid (Box wx nv #[.int .i64 Y.x,.int .i64 Y.y,.int .i64 Y.z] 77)/\Hid (Bl H wx))
       case first =>
        go_wp2_with fail
        go_region_held3 (fun w'=>w'.cell? ⟨bp,op+bb*3,none⟩=some (.int .i64 pb.x)/\w'.cell? ⟨bp,op+bb*3+1,none⟩=some (.int .i64 pb.y)/\w'.cell? ⟨bp,op+bb*3+2,none⟩=some (.int .i64 pb.z)/\w'.cell? ⟨bp,op+X*3,none⟩=some (.int .i64 pl.x)/\w'.cell? ⟨bp,op+X*3+1,none⟩=some (.int .i64 pl.y)/\w'.cell? ⟨bp,op+X*3+2,none⟩=some (.int .i64 pl.z)/\w'.cell? ⟨bp,op+q*3,none⟩=some (.int .i64 pq.x)/\w'.cell? ⟨bp,op+q*3+1,none⟩=some (.int .i64 pq.y)/\w'.cell? ⟨bp,op+q*3+2,none⟩=some (.int .i64 pq.z))
         (with_reducible exact(KP.o _ dZ))
         (first
          | (have _g:=M1.o;clear _g;go_at_call 164;refine(cm.o _).mono ?_;rintro e U ⟨rfl,C⟩
             have M2:=O (show Bl H U from ae dZ C ρ)
             first
              | (have A:=O (show Box U _ _ _ from by with_reducible exact A.o.to C)
                 have ab:=O (show Box U _ _ _ from by with_reducible exact ab.o.to C))
              | (have fo:=Nat.ne_of_lt A.o.lt
                 have gs:=fo.symm;have ab:=O (show Box U _ #[.int .i64 0,.int .i64 0,.int .i64 0] 77 from by with_reducible exact(Box.new _ _ _ _ rfl).below C (Box.new _ _ _ _ rfl).lt);have A:=O (show Box U _ _ _ from by with_reducible exact(A.o.old _).below C (A.o.old _).lt);have an:=O M1.o.size)
              | (have A:=O (show Box U _ _ _ from by with_reducible exact A.o.to C))
              | (have ab:=O (show Box U (v1.heap.size+1) #[.int .i64 0,.int .i64 0,.int .i64 0] 77 from by with_reducible exact(Box.new _ _ _ (v1.heap.size+1) (by simp)).below C (Box.new _ _ _ (v1.heap.size+1) (by simp)).lt)
                 have A:=O (show Box U _ #[.int .i64 0,.int .i64 0,.int .i64 0] 77 from by with_reducible exact((Box.new _ _ _ _ rfl).old _).below C ((Box.new _ _ _ _ rfl).old _).lt);have F:=O M1.o.size;have an:=O (show H.heap.size<=v1.heap.size+1 from by have:=M1.o.size;omega))
              | (have A:=O (show Box U _ #[.int .i64 0,.int .i64 0,.int .i64 0] 77 from by with_reducible exact(Box.new _ _ _ _ rfl).below C (Box.new _ _ _ _ rfl).lt)
                 have F:=O M1.o.size)
              | skip
             try have cp:=Nat.ne_of_lt A.o.lt
             try have fn:=cp.symm
             try obtain⟨n0,n1,n2,n3,n4,n5⟩:=A.o.three
             try have ev:=fun o=>(A.o.old o).three
             try obtain⟨m0,m1,m2,m3,m4,m5⟩:=ab.o.three
             clear C)
          | (go_at_call 164;refine(cl.o _).mono ?_;rintro e v1 ⟨rfl,G⟩
             have M1:=O (show Bl H v1 from ae dZ G ρ)
             first
              | (have ab:=O (show Box v1 (H.heap.size+1) #[.int .i64 0,.int .i64 0,.int .i64 0] 77 from by with_reducible exact(Box.new _ _ _ (H.heap.size+1) (by simp)).drew.below G (Box.new _ _ _ (H.heap.size+1) (by simp)).drew.lt)
                 have A:=O (show Box v1 _ #[.int .i64 0,.int .i64 0,.int .i64 0] 77 from by with_reducible exact((Box.new _ _ _ _ rfl).old _).drew.below G ((Box.new _ _ _ _ rfl).old _).drew.lt);have F:=O M0.o.size;have an:=O (show H.heap.size<=H.heap.size+1 from by have:=M0.o.size;omega))
              | (have A:=O (show Box v1 _ #[.int .i64 0,.int .i64 0,.int .i64 0] 77 from by with_reducible exact(Box.new _ _ _ _ rfl).drew.below G (Box.new _ _ _ _ rfl).drew.lt)
                 have F:=O M0.o.size)
              | skip
             try have cp:=Nat.ne_of_lt A.o.lt
             try have fn:=cp.symm
             try obtain⟨n0,n1,n2,n3,n4,n5⟩:=A.o.three
             try have ev:=fun o=>(A.o.old o).three
             try obtain⟨m0,m1,m2,m3,m4,m5⟩:=ab.o.three
             clear G))
        all_goals
         go_wp2_with fail
         go_meet
        all_goals first
         | (with_reducible exact⟨rfl,_,_,rfl,rfl,O ((Box.new _ _ _ _ rfl).old _),O (Box.new _ _ _ _ (by simp)),O ((M2.o.alloc M2.o.size _).alloc (M2.o.alloc M2.o.size _).size _)⟩)
         | (with_reducible exact⟨rfl,_,_,rfl,rfl,O (Box.new _ _ _ _ (by simp)),O ((Box.new _ _ _ _ rfl).old _),O ((M2.o.alloc M2.o.size _).alloc (M2.o.alloc M2.o.size _).size _)⟩)
         | (with_reducible exact⟨rfl,_,_,rfl,rfl,O (((A.o.old _).set3 _ _ _).other3 (by first|assumption|(apply Ne.symm;assumption)|omega) _ _ _),O (((Box.new _ _ _ _ rfl).other3 (by first|assumption|(apply Ne.symm;assumption)|omega) _ _ _).set3 _ _ _),O (((((((M2.o.alloc M2.o.size _).setCell F.o _).setCell F.o _).setCell F.o _).setCell M2.o.size _).setCell M2.o.size _).setCell M2.o.size _)⟩)
         | (with_reducible exact⟨rfl,_,_,rfl,rfl,O ((Box.new _ _ _ _ rfl).other3 (by first|assumption|(apply Ne.symm;assumption)|omega) _ _ _),O ((A.o.old _).set3 _ _ _),O ((((M2.o.alloc M2.o.size _).setCell F.o _).setCell F.o _).setCell F.o _)⟩)
         | (with_reducible exact⟨rfl,_,_,rfl,rfl,O ((A.o.set3 _ _ _).other3 (by first|assumption|(apply Ne.symm;assumption)|omega) _ _ _),O ((ab.o.other3 (by first|assumption|(apply Ne.symm;assumption)|omega) _ _ _).set3 _ _ _),O (((((((M2.o).setCell F.o _).setCell F.o _).setCell F.o _).setCell an.o _).setCell an.o _).setCell an.o _)⟩)
         | (with_reducible exact⟨rfl,_,_,rfl,rfl,O ((ab.o.set3 _ _ _).other3 (by first|assumption|(apply Ne.symm;assumption)|omega) _ _ _),O ((A.o.other3 (by first|assumption|(apply Ne.symm;assumption)|omega) _ _ _).set3 _ _ _),O (((((((M2.o).setCell an.o _).setCell an.o _).setCell an.o _).setCell F.o _).setCell F.o _).setCell F.o _)⟩)
       case rest =>
        obtain⟨rfl,nu,nv,rfl,rfl,ed,ee,dy⟩:=hcut;have b6:=B1.o.below (ae eT.o dy.o ρ) (ψ HS.o);obtain⟨c0,c1,c2,-⟩:=b6.four;obtain⟨d0,d1,d2,-⟩:=ed.o.three;obtain⟨e0,e1,e2,-⟩:=ee.o.three;have l1:=b6.lt;have l2:=ed.o.lt;have l3:=ee.o.lt;have KQ:Hid (∀w',Bl wc w'->Γ9 w' w.heap.size 0 (.int .i64 n.x) w.heap.size 1 (.int .i64 n.y) w.heap.size 2 (.int .i64 n.z) nu 0 (.int .i64 u.x) nu 1 (.int .i64 u.y) nu 2 (.int .i64 u.z) nv 0 (.int .i64 Y.x) nv 1 (.int .i64 Y.y) nv 2 (.int .i64 Y.z)):=fun w' h =>
         ⟨keepC c0 h l1,keepC c1 h l1,keepC c2 h l1,keepC d0 h l2,keepC d1 h l2,keepC d2 h l2,keepC e0 h l3,keepC e1 h l3,keepC e2 h l3⟩
        have N0:=O (Below.refl wc.heap.size wc);have e3:Hid (Bl wc wc.drew):=N0.o.drew;obtain⟨e5,dA,b8⟩:=η3 (fun v=>lL u Y 8192 8192 v LU.o b5.o I) (fun v=>mG n (V.cross u Y) 200000000 134217728 v hn ((LU.o.cross b5.o).mono I) I) (fun x lx v=>mG x x 8192 8192 v lx lx I);have e7:=KQ.o _ N0.o;obtain⟨τ,cn⟩:=χ (V.dot n (V.cross u Y));have aw:Hid (T n u Y=τ):=cn;rw[cn]at dA;clear b6 c0 c1 c2 d0 d1 d2 e0 e1 e2 e6 KP cn
        go_wp2_with fail
        go_region_held3 (fun w'=>w'.cell? ⟨w.heap.size,0,none⟩=some (.int .i64 n.x)/\w'.cell? ⟨w.heap.size,1,none⟩=some (.int .i64 n.y)/\w'.cell? ⟨w.heap.size,2,none⟩=some (.int .i64 n.z)/\w'.cell? ⟨nu,0,none⟩=some (.int .i64 u.x)/\w'.cell? ⟨nu,1,none⟩=some (.int .i64 u.y)/\w'.cell? ⟨nu,2,none⟩=some (.int .i64 u.z)/\w'.cell? ⟨nv,0,none⟩=some (.int .i64 Y.x)/\w'.cell? ⟨nv,1,none⟩=some (.int .i64 Y.y)/\w'.cell? ⟨nv,2,none⟩=some (.int .i64 Y.z))
         (with_reducible exact(KQ.o _ dZ))
         (first
          | (have _g:=N1.o;clear _g;go_at_call 166;refine(dA.o _).mono ?_;rintro e U ⟨rfl,C⟩
             have N2:Hid (Bl wc U):=ae N1.o C ρ;clear C)
          | (go_at_call 163;refine(e5.o _).mono ?_;rintro e v1 ⟨rfl,G⟩
             have N1:Hid (Bl wc v1):=ae e3.o G ρ;clear G))
        have f7:=N2;have b4:Hid (Bl w2 U):=ae J.o (ae dy.o N2.o ρ) ρ;have gm:=(KQ.o _ N2.o).2.2.2;clear e7
        rcases Int.lt_trichotomy τ 0 with ht|ht|ht
        ·have el:(decide (τ<0))=true:=decide_eq_true ht
         have ay:=O ht
         go_wp2_with fail
         go_quiet (fail)
         go_wp2;go_round
         case rel=>exact⟨i+1,some q,by omega,rfl,rfl,(by
          show _=some q;rw[a2.o,af.o,HQ.o];unfold pick;rw[if_neg ap.o];dsimp only;rw[bi.o,bk.o,aw.o,if_pos (.inl ay.o)]),aF b4.o _⟩
         case measure=>exact μ
        ·have el:(decide (τ<0))=false:=decide_eq_false I
         have fc:(τ == 0)=true:=by rw[beq_iff_eq];exact ht
         have ay:=O ht;have KR:Hid (∀w',Bl U w'->Γ6 w' nu 0 (.int .i64 u.x) nu 1 (.int .i64 u.y) nu 2 (.int .i64 u.z) nv 0 (.int .i64 Y.x) nv 1 (.int .i64 Y.y) nv 2 (.int .i64 Y.z)):=fun w' h=>(KQ.o _ (ae N2.o h ρ)).2.2.2
         have O0:=O (Below.refl U.heap.size U);have e4:Hid (Bl U U.drew):=O0.o.drew;clear ht;obtain⟨dv,ca⟩:=χ (V.dot Y Y);obtain⟨du,b9⟩:=χ (V.dot u u);have br:=b8.o Y b5.o;have bm:=b8.o u LU.o;rw[ca]at br;rw[b9]at bm;obtain⟨br,bm,c6,cV⟩:=η4 br bm ca b9;clear ca b9 b8
         go_wp2_with fail
         go_region_held3 (fun w'=>w'.cell? ⟨nu,0,none⟩=some (.int .i64 u.x)/\w'.cell? ⟨nu,1,none⟩=some (.int .i64 u.y)/\w'.cell? ⟨nu,2,none⟩=some (.int .i64 u.z)/\w'.cell? ⟨nv,0,none⟩=some (.int .i64 Y.x)/\w'.cell? ⟨nv,1,none⟩=some (.int .i64 Y.y)/\w'.cell? ⟨nv,2,none⟩=some (.int .i64 Y.z))
          (with_reducible exact(KR.o _ dZ))
          (first
           | (have _g:=O1.o;clear _g;go_at_call 166;refine(bm.o _).mono ?_;rintro e v4 ⟨rfl,C⟩
              have O2:Hid (Bl U v4):=ae O1.o C ρ;clear C)
           | (go_at_call 166;refine(br.o _).mono ?_;rintro e v3 ⟨rfl,G⟩
              have O1:Hid (Bl U v3):=ae e4.o G ρ;clear G))
         have db:Hid (Bl w2 v4):=ae b4.o O2.o ρ;by_cases d6:dv > du
         ·have HG:=O d6
          go_wp2;go_round
          case rel=>exact⟨i+1,some q,by omega,rfl,rfl,(by
           show _=some q;rw[a2.o,af.o,HQ.o];unfold pick;rw[if_neg ap.o];dsimp only;rw[bi.o,bk.o,aw.o,c6.o,cV.o,if_pos (.inr ⟨ay.o,HG.o⟩)]),db.o⟩
          case measure=>exact μ
         ·have HG:=O d6
          go_wp2;go_round
          case rel=>exact⟨i+1,some bb,by omega,rfl,rfl,(by
           show _=some bb;rw[a2.o,af.o,HQ.o];unfold pick;rw[if_neg ap.o];dsimp only;rw[bi.o,bk.o,aw.o,c6.o,cV.o,if_neg (by have:=ay.o;have:=HG.o;omega)]),db.o⟩
          case measure=>exact μ
        ·have el:(decide (τ<0))=false:=decide_eq_false I
         have fc:(τ == 0)=false:=by rw[beq_eq_false_iff_ne];omega
         have ay:=O ht
         go_wp2_with fail
         go_quiet (fail)
         go_wp2;go_round
         case rel=>exact⟨i+1,some bb,by omega,rfl,rfl,(by
          show _=some bb;rw[a2.o,af.o,HQ.o];unfold pick;rw[if_neg ap.o];dsimp only;rw[bi.o,bk.o,aw.o,if_neg (ψ ay.o)]),aF b4.o _⟩
         case measure=>exact μ
  ·have e9:((m:Int) != 0)=true:=by rw[bne_iff_ne];omega
   obtain⟨t,ht,hl⟩:=lowest h0;have bF:=HL.o.lt HM.o;obtain⟨ci,fl⟩:=η2 (HL.o.step HM.o ht hl) (fun v hv=>tz_any m t v hv bF ht hl);have fv:=and_nat m h0 bF;have f0:m &&& (m-1)<m:=Nat.lt_of_le_of_lt Nat.and_le_right I;have e8:(bw M k).length<=64:=Nat.le_trans (lh M k) hk;have ek:=HR.o.size;clear ht hl
   go_wp2_with fail
   refine(fl.o _ (HT.o.below HR.o (ψ HT.o.1))).mono ?_;rintro e w1 ⟨rfl,rfl⟩;have E:w1.ownsRow W.heap.size 3 1 u5 (bw M k).length ((bw M k).map fun(i:Nat)=>Value.int .i64 (i:Int)):=HO.o
   go_wp2_with (at_builtin;refine wpList_append_own _ rfl _ _ 63 rfl W.heap.size 3 i0 (.int .i64 0) 1 8 underlying63 bz eq er et rfl ν _ _ _ rfl (E.alloc _) ⟨w1.heap.size,0,none⟩ 1 1 [.int .i64 (t:Nat)] rfl rfl ?c1 ?c2 ?c3 ?c4 ?c5 ?_)
   case c1 =>
    intro j u hj
    match j,hj with
    | 0,hj=>simp at hj;subst hj;simp[Addr.add]
   case c2=>intro u hu;simp at hu;subst hu;rfl
   case c3=>unfold maxLen;omega
   case c4=>omega
   case c5=>simp;omega
   ·intro v' w2 R Q _
    have a1:bo w2 W.heap.size v' (bw M (t+1)):=by
     unfold bo;rw[ci.o.2.2.2.1];simpa using R
    have a5:Bl W w2:=by
     exact(HR.o.alloc ek _).grown Q (by simp;omega) (cz E)
    obtain⟨b3,bI⟩:=η2 a1 a5;clear R Q E a1 a5;go_wp2;go_round
    case rel=>exact⟨t+1,m &&& (m-1),by have:=ci.o.2.1;omega,rfl,ci.o.2.2.2.2,b3.o,bI.o⟩
    case measure=>show((m &&& (m-1):Nat):Int).toNat<((m:Nat):Int).toNat;omega
def rI(a b:Q3):Int:=if dr a.x b.x≠0 then dr a.x b.x else if dr a.y b.y≠0 then dr a.y b.y else dr a.z b.z
theorem fm{x y:Rat}:dr x y=0↔x=y:=by
 unfold dr
 split
 ·rename_i h;exact⟨fun e=>by omega,fun e=>absurd h (by rw[e];exact Rat.lt_irrefl)⟩
 ·split
  ·rename_i h;exact⟨fun e=>by omega,fun e=>absurd h (by rw[e];exact Rat.lt_irrefl)⟩
  ·rename_i i e;exact⟨fun _=>Rat.le_antisymm (Rat.not_lt.mp e) (Rat.not_lt.mp i),fun _=>rfl⟩
theorem sQ{a b:Q3}:rI a b=0↔a=b:=by
 unfold rI;obtain⟨x,y,z⟩:=a;obtain⟨j,u,A⟩:=b;simp only[Q3.mk.injEq];by_cases e:dr x j=0
 ·rw[if_neg (fun h=>h e)]
  by_cases i:dr y u=0
  ·rw[if_neg (fun h=>h i),fm];rw[fm]at e i;simp[e,i]
  ·rw[if_pos i];exact⟨fun h=>absurd h i,fun h=>absurd (fm.mpr h.2.1) i⟩
 ·rw[if_pos e];exact⟨fun h=>absurd h e,fun h=>absurd (fm.mpr h.1) e⟩
theorem mK(va vb:Value)(a b:Q3)(k l:Nat)(w:World)(ha:am w va a)(hb:am w vb b)(hk:BdV k a)(hl:BdV l b)(h1:k+l<=1000000):
 Calls prog 78 #[va,vb] w fun e w'=>e=.returned (.int .i64 (rI a b))/\Bl w w':=by
 obtain⟨i,j,u,rfl,af,ag,an⟩:=ha;obtain⟨C,b1,b2,rfl,au,av,aw⟩:=hb;obtain⟨W,hW,c1,c2,R,hS⟩:=bU w (ah i j u) (ah C b1 b2) 57 57;obtain⟨A,Y,a8,a9,ba,bc,be,bf,HK⟩:=η9 c1 c2 (af.below R) (ag.below R) (an.below R) (au.below R) (av.below R) (aw.below R) hk;obtain⟨HL,L,Q,Z0⟩:=η4 hl R hS (Below.refl W.heap.size W);clear af ag an au av aw hk hl c1 c2 R hS;unfold ah at hW⊢
 go_enter func78,ntmps78
 go_wp2_with fail
 refine aN.loop 4 ?_;refine aN.next (fun K hK=>?_);have ab:Hid (∀w',Bl W w'->Γ8 w' w.heap.size 0 (.bool i.s) w.heap.size 1 (.slice i.a i.n i.c) w.heap.size 2 (.bool i.t) w.heap.size 3 (.slice i.b i.m i.d) (w.heap.size+1) 0 (.bool C.s) (w.heap.size+1) 1 (.slice C.a C.n C.c) (w.heap.size+1) 2 (.bool C.t) (w.heap.size+1) 3 (.slice C.b C.m C.d)):=fun w' h=>by
  obtain⟨p0,p1,p2,p3⟩:=(A.o.to h).p0.1;obtain⟨q0,q1,q2,q3⟩:=(Y.o.to h).p0.1;exact⟨p0,p1,p2,p3,q0,q1,q2,q3⟩
 have hf:=ab.o _ Z0.o;have Y0:Hid (Bl W W.drew):=Z0.o.drew;obtain⟨d0,ay⟩:∃d,dr a.x b.x=d:=ξ;have E:=O ay
 go_wp2_with fail
 clear ay
 go_region_held3 (fun w'=>w'.cell? ⟨w.heap.size,0,none⟩=some (.bool i.s)/\w'.cell? ⟨w.heap.size,1,none⟩=some (.slice i.a i.n i.c)/\w'.cell? ⟨w.heap.size,2,none⟩=some (.bool i.t)/\w'.cell? ⟨w.heap.size,3,none⟩=some (.slice i.b i.m i.d)/\w'.cell? ⟨w.heap.size+1,0,none⟩=some (.bool C.s)/\w'.cell? ⟨w.heap.size+1,1,none⟩=some (.slice C.a C.n C.c)/\w'.cell? ⟨w.heap.size+1,2,none⟩=some (.bool C.t)/\w'.cell? ⟨w.heap.size+1,3,none⟩=some (.slice C.b C.m C.d))
  (with_reducible exact(ab.o _ dZ))
  (first
   | (go_at_call 20;refine(cj i.agg C.agg a.x b.x k l _ (a8.o.below Y0.o) (bc.o.below Y0.o) HK.o.1 HL.o.1 I).mono ?_
      rw[E.o];rintro e u1 ⟨rfl,ao⟩;have L1:Hid (Bl W u1):=ae Y0.o ao ρ;clear ao))
 clear hf;by_cases F:d0=0
 case neg =>
  have a4:(d0 != 0)=true:=bne_iff_ne.mpr F;have HZ:=O F;clear F;go_wp2;exact bodyPost_ret (results_tmp results78 _ _ _) rfl ⟨by
   unfold rI;rw[if_pos (show dr a.x b.x≠0 by rw[E.o];exact HZ.o),E.o];rfl,ae L.o L1.o (ψ Q.o)⟩
 case pos =>
 have a5:(d0 != 0)=false:=by rw[F];rfl
 have X:=O F;clear F
 go_wp2_with fail
 clear a5;refine aN.next (fun K hK=>?_);have ac:Hid (∀w',Bl W w'->Γ8 w' w.heap.size 4 (.bool j.s) w.heap.size 5 (.slice j.a j.n j.c) w.heap.size 6 (.bool j.t) w.heap.size 7 (.slice j.b j.m j.d) (w.heap.size+1) 4 (.bool b1.s) (w.heap.size+1) 5 (.slice b1.a b1.n b1.c) (w.heap.size+1) 6 (.bool b1.t) (w.heap.size+1) 7 (.slice b1.b b1.m b1.d)):=fun w' h=>by
  obtain⟨p0,p1,p2,p3⟩:=(A.o.to h).p1.1;obtain⟨q0,q1,q2,q3⟩:=(Y.o.to h).p1.1;exact⟨p0,p1,p2,p3,q0,q1,q2,q3⟩
 have hf:=ac.o _ L1.o;have Y1:Hid (Bl W u1.drew):=L1.o.drew;obtain⟨d1,az⟩:∃d,dr a.y b.y=d:=ξ;have J:=O az
 go_wp2_with fail
 clear az
 go_region_held3 (fun w'=>w'.cell? ⟨w.heap.size,4,none⟩=some (.bool j.s)/\w'.cell? ⟨w.heap.size,5,none⟩=some (.slice j.a j.n j.c)/\w'.cell? ⟨w.heap.size,6,none⟩=some (.bool j.t)/\w'.cell? ⟨w.heap.size,7,none⟩=some (.slice j.b j.m j.d)/\w'.cell? ⟨w.heap.size+1,4,none⟩=some (.bool b1.s)/\w'.cell? ⟨w.heap.size+1,5,none⟩=some (.slice b1.a b1.n b1.c)/\w'.cell? ⟨w.heap.size+1,6,none⟩=some (.bool b1.t)/\w'.cell? ⟨w.heap.size+1,7,none⟩=some (.slice b1.b b1.m b1.d))
  (with_reducible exact(ac.o _ dZ))
  (first
   | (go_at_call 20;refine(cj j.agg b1.agg a.y b.y k l _ (a9.o.below Y1.o) (be.o.below Y1.o) HK.o.2.1 HL.o.2.1 I).mono ?_
      rw[J.o];rintro e u2 ⟨rfl,ap⟩;have L2:Hid (Bl W u2):=ae Y1.o ap ρ;clear ap))
 clear hf;by_cases G:d1=0
 case neg =>
  have a4:(d1 != 0)=true:=bne_iff_ne.mpr G;have HZ:=O G;clear G;go_wp2;exact bodyPost_ret (results_tmp results78 _ _ _) rfl ⟨by
   unfold rI;rw[if_neg (show ¬ dr a.x b.x≠0 from fun h=>h (E.o.trans X.o))];rw[if_pos (show dr a.y b.y≠0 by rw[J.o];exact HZ.o),J.o];rfl,ae L.o L2.o (ψ Q.o)⟩
 case pos =>
 have a6:(d1 != 0)=false:=by rw[G];rfl
 have aa:=O G;clear G
 go_wp2_with fail
 clear a6;refine aN.next (fun K hK=>?_);have ad:Hid (∀w',Bl W w'->Γ8 w' w.heap.size 8 (.bool u.s) w.heap.size 9 (.slice u.a u.n u.c) w.heap.size 10 (.bool u.t) w.heap.size 11 (.slice u.b u.m u.d) (w.heap.size+1) 8 (.bool b2.s) (w.heap.size+1) 9 (.slice b2.a b2.n b2.c) (w.heap.size+1) 10 (.bool b2.t) (w.heap.size+1) 11 (.slice b2.b b2.m b2.d)):=fun w' h=>by
  obtain⟨p0,p1,p2,p3⟩:=(A.o.to h).p2.1;obtain⟨q0,q1,q2,q3⟩:=(Y.o.to h).p2.1;exact⟨p0,p1,p2,p3,q0,q1,q2,q3⟩
 have hf:=ad.o _ L2.o;have Y2:Hid (Bl W u2.drew):=L2.o.drew;obtain⟨d2,a3⟩:∃d,dr a.z b.z=d:=ξ;have U:=O a3
 go_wp2_with fail
 clear a3
 go_region_held3 (fun w'=>w'.cell? ⟨w.heap.size,8,none⟩=some (.bool u.s)/\w'.cell? ⟨w.heap.size,9,none⟩=some (.slice u.a u.n u.c)/\w'.cell? ⟨w.heap.size,10,none⟩=some (.bool u.t)/\w'.cell? ⟨w.heap.size,11,none⟩=some (.slice u.b u.m u.d)/\w'.cell? ⟨w.heap.size+1,8,none⟩=some (.bool b2.s)/\w'.cell? ⟨w.heap.size+1,9,none⟩=some (.slice b2.a b2.n b2.c)/\w'.cell? ⟨w.heap.size+1,10,none⟩=some (.bool b2.t)/\w'.cell? ⟨w.heap.size+1,11,none⟩=some (.slice b2.b b2.m b2.d))
  (with_reducible exact(ad.o _ dZ))
  (first
   | (go_at_call 20;refine(cj u.agg b2.agg a.z b.z k l _ (ba.o.below Y2.o) (bf.o.below Y2.o) HK.o.2.2 HL.o.2.2 I).mono ?_
      rw[U.o];rintro e u3 ⟨rfl,ar⟩;have L3:Hid (Bl W u3):=ae Y2.o ar ρ;clear ar))
 clear hf;by_cases H:d2=0
 case neg =>
  have a4:(d2 != 0)=true:=bne_iff_ne.mpr H;have HZ:=O H;clear H;go_wp2;exact bodyPost_ret (results_tmp results78 _ _ _) rfl ⟨by
   unfold rI;rw[if_neg (show ¬ dr a.x b.x≠0 from fun h=>h (E.o.trans X.o))];rw[if_neg (show ¬ dr a.y b.y≠0 from fun h=>h (J.o.trans aa.o))];rw[U.o];rfl,ae L.o L3.o (ψ Q.o)⟩
 case pos =>
 have a7:(d2 != 0)=false:=by rw[H];rfl
 have bg:=O H;clear H
 go_wp2_with fail
 clear a7;refine aN.next (fun K hK=>?_);go_wp2;exact bodyPost_ret (results_tmp results78 _ _ _) rfl ⟨by
  rw[show rI a b=0 from by
   unfold rI;rw[if_neg (show ¬ dr a.x b.x≠0 from fun h=>h (E.o.trans X.o)),if_neg (show ¬ dr a.y b.y≠0 from fun h=>h (J.o.trans aa.o))];exact U.o.trans bg.o];rfl,ae L.o L3.o (ψ Q.o)⟩
theorem lN(G H:Value)(a b:Q3)(k l:Nat)(w:World)(ha:am w G a)(hb:am w H b)(Y:BdV k a)(hl:BdV l b)(X:k+l<=1000000):
 Calls prog 32 #[G,H] w fun e w'=>nH e (a=b)/\Bl w w':=by
 have hc:=fun w' h2 h3=>mK G H a b k l w' h2 h3 Y hl X
 obtain⟨d,F⟩:=χ (rI a b);have A:d=0↔a=b:=by rw[<-F];exact sQ
 rw[F]at hc;obtain⟨C,HA,HB⟩:=η3 A ha hb;obtain⟨a0,a1,a2,rfl,-⟩:=ha;obtain⟨b0,b1,b2,rfl,-⟩:=hb;have HC:=O hc;obtain⟨W,hW,c1,c2,j,hS⟩:=bU w (ah a0 a1 a2) (ah b0 b1 b2) 57 57;obtain⟨i,E⟩:=η2 j hS;obtain⟨⟨x0,x1,x2,x3⟩,-⟩:=c1.p0;obtain⟨⟨x4,x5,x6,x7⟩,-⟩:=c1.p1;obtain⟨⟨x8,x9,J,Q⟩,-⟩:=c1.p2;obtain⟨⟨y0,y1,y2,y3⟩,-⟩:=c2.p0;obtain⟨⟨y4,y5,y6,y7⟩,-⟩:=c2.p1;obtain⟨⟨y8,y9,R,U⟩,-⟩:=c2.p2;clear hc Y hl X c1 c2 j hS F A;unfold ah at hW⊢
 go_enter func32,ntmps32
 go_wp2_with fail
 refine(HC.o _ (HA.o.below i.o) (HB.o.below i.o)).mono ?_;rintro e w1 ⟨rfl,u⟩;have L:=O (ae i.o u (ψ E.o));clear u x0 x1 x2 x3 x4 x5 x6 x7 x8 x9 J Q y0 y1 y2 y3 y4 y5 y6 y7 y8 y9 R U;go_wp2;refine bodyPost_ret (results_tmp results32 _ _ _) rfl ⟨⟨d == 0,rfl,?_⟩,L.o⟩;rw[beq_iff_eq];exact C.o
theorem VIsZero_any(G:Value)(a:Q3)(k:Nat)(w:World)(ha:am w G a)(Q:BdV k a)(h1:k<=900000):
 Calls prog 39 #[G] w fun e w'=>nH e (a=⟨0,0,0⟩)/\Bl w w':=by
 have hc:=fun w' h2 h3=>mK G (.agg (ah RC.zero RC.zero RC.zero)) a ⟨0,0,0⟩ k 1 w' h2 h3 Q ⟨Bd.zero,Bd.zero,Bd.zero⟩ I
 obtain⟨d,F⟩:=χ (rI a ⟨0,0,0⟩);have A:d=0↔a=⟨0,0,0⟩:=by rw[<-F];exact sQ
 rw[F]at hc;obtain⟨C,R⟩:=η2 A ha;obtain⟨X,Y,a2,rfl,-⟩:=ha;have U:=O hc;obtain⟨W,hW,c1,j,hS⟩:=aB w (ah X Y a2) 57;obtain⟨i,E⟩:=η2 j hS;obtain⟨⟨x0,x1,x2,x3⟩,-⟩:=c1.p0;obtain⟨⟨x4,x5,x6,x7⟩,-⟩:=c1.p1;obtain⟨⟨x8,x9,H,J⟩,-⟩:=c1.p2;clear hc Q h1 c1 j hS F A;unfold ah at hW⊢
 go_enter func39,ntmps39
 go_wp2_with fail
 refine(U.o _ (R.o.below i.o) (am.zero _)).mono ?_;rintro e w1 ⟨rfl,u⟩;have L:=O (ae i.o u (ψ E.o));clear u x0 x1 x2 x3 x4 x5 x6 x7 x8 x9 H J;go_wp2;refine bodyPost_ret (results_tmp results39 _ _ _) rfl ⟨⟨d == 0,rfl,?_⟩,L.o⟩;rw[beq_iff_eq];exact C.o
def eL(a b:Q3):Q3:=⟨a.y*b.z-a.z*b.y,a.z*b.x-a.x*b.z,a.x*b.y-a.y*b.x⟩
theorem BdV.cross{k l:Nat}{a b:Q3}(ha:BdV k a)(hb:BdV l b):BdV (2*(k+l)+1) (eL a b):=by
 refine⟨?_,?_,?_⟩
 ·have:=(ha.2.1.mul hb.2.2).sub (ha.2.2.mul hb.2.1);rwa [show k+l+(k+l)+1=2*(k+l)+1 by omega]at this
 ·have:=(ha.2.2.mul hb.1).sub (ha.1.mul hb.2.2);rwa [show k+l+(k+l)+1=2*(k+l)+1 by omega]at this
 ·have:=(ha.1.mul hb.2.1).sub (ha.2.1.mul hb.1);rwa [show k+l+(k+l)+1=2*(k+l)+1 by omega]at this
theorem VCross_any(va vb:Value)(a b:Q3)(k l:Nat)(w:World)(ha:am w va a)(hb:am w vb b)(hk:BdV k a)(hl:BdV l b)(h1:k+l<200000):
 Calls prog 153 #[va,vb] w fun e w'=>gU w' e (eL a b)/\Bl w w':=by
 obtain⟨i,j,u,rfl,b8,b9,ca⟩:=ha;obtain⟨E,b1,b2,rfl,cc,cd,ce⟩:=hb;obtain⟨W,hW,c1,c2,c3,c4,hB,hS⟩:=nC w (ah i j u) (ah E b1 b2) #[.bool false,.slice none 0 0,.bool false,.slice none 0 0,.bool false,.slice none 0 0,.bool false,.slice none 0 0,.bool false,.slice none 0 0,.bool false,.slice none 0 0] #[.bool false,.slice none 0 0,.bool false,.slice none 0 0,.bool false,.slice none 0 0,.bool false,.slice none 0 0,.bool false,.slice none 0 0,.bool false,.slice none 0 0] 57 57 57 57;obtain⟨A,Bb⟩:=η2 c1 c2;have C:Hid (Box W (w.heap.size+2) (ah RC.zero RC.zero RC.zero) 57):=c3;have D:Hid (Box W (w.heap.size+3) (ah RC.zero RC.zero RC.zero) 57):=c4;obtain⟨ab,ac,ad,af,ag,an,cl,cp,G⟩:=η9 (b8.below hB) (b9.below hB) (ca.below hB) (cc.below hB) (cd.below hB) (ce.below hB) hB hS hk;have H:=O hl;have G3:Hid (w.heap.size+2<=w.heap.size+1+1+1):=by show _<=_;omega
 clear b8 b9 ca cc cd ce hk hl c1 c2 c3 c4 hB hS;unfold ah at hW⊢
 go_enter func153,ntmps153
 go_wp2_with fail
 refine aN.loop 4 ?_;refine aN.next (fun K hK=>?_);have az:Hid (∀w',Below (w.heap.size+2) W w'->w'.cell? ⟨w.heap.size,4,none⟩=some (.bool j.s)/\w'.cell? ⟨w.heap.size,5,none⟩=some (.slice j.a j.n j.c)/\w'.cell? ⟨w.heap.size,6,none⟩=some (.bool j.t)/\w'.cell? ⟨w.heap.size,7,none⟩=some (.slice j.b j.m j.d)/\Γ12 w' (w.heap.size+1) 8 (.bool b2.s) (w.heap.size+1) 9 (.slice b2.a b2.n b2.c) (w.heap.size+1) 10 (.bool b2.t) (w.heap.size+1) 11 (.slice b2.b b2.m b2.d) w.heap.size 8 (.bool u.s) w.heap.size 9 (.slice u.a u.n u.c) w.heap.size 10 (.bool u.t) w.heap.size 11 (.slice u.b u.m u.d) (w.heap.size+1) 4 (.bool b1.s) (w.heap.size+1) 5 (.slice b1.a b1.n b1.c) (w.heap.size+1) 6 (.bool b1.t) (w.heap.size+1) 7 (.slice b1.b b1.m b1.d)):=fun w' h=>by
  obtain⟨p0,p1,p2,p3⟩:=(A.o.below h I).p1.1;obtain⟨q0,q1,q2,q3⟩:=(Bb.o.below h I).p2.1;obtain⟨X,U,R,r3⟩:=(A.o.below h I).p2.1;obtain⟨s0,s1,s2,s3⟩:=(Bb.o.below h I).p1.1;exact⟨p0,p1,p2,p3,q0,q1,q2,q3,X,U,R,r3,s0,s1,s2,s3⟩
 have F:Hid (Bl W W.drew):=β.drew;have N0:Hid (Below (w.heap.size+2) W W.drew):=β.drew;have ba:=az.o _ β;obtain⟨ao,ap,ar⟩:=η3 (fun v h2 h3=>dE j.agg b2.agg a.y b.z k l v h2 h3 G.o.2.1 H.o.2.2 I) (fun v h2 h3=>dE u.agg b1.agg a.z b.y k l v h2 h3 G.o.2.2 H.o.2.1 I) (fun v va vb h2 h3=>jm va vb (a.y*b.z) (a.z*b.y) (k+l) (k+l) v h2 h3 (G.o.2.1.mul H.o.2.2) (G.o.2.2.mul H.o.2.1) I)
 go_wp2_with fail
 go_region_held3 (fun w'=>w'.cell? ⟨w.heap.size,4,none⟩=some (.bool j.s)/\w'.cell? ⟨w.heap.size,5,none⟩=some (.slice j.a j.n j.c)/\w'.cell? ⟨w.heap.size,6,none⟩=some (.bool j.t)/\w'.cell? ⟨w.heap.size,7,none⟩=some (.slice j.b j.m j.d)/\w'.cell? ⟨w.heap.size+1,8,none⟩=some (.bool b2.s)/\w'.cell? ⟨w.heap.size+1,9,none⟩=some (.slice b2.a b2.n b2.c)/\w'.cell? ⟨w.heap.size+1,10,none⟩=some (.bool b2.t)/\w'.cell? ⟨w.heap.size+1,11,none⟩=some (.slice b2.b b2.m b2.d)/\w'.cell? ⟨w.heap.size,8,none⟩=some (.bool u.s)/\w'.cell? ⟨w.heap.size,9,none⟩=some (.slice u.a u.n u.c)/\w'.cell? ⟨w.heap.size,10,none⟩=some (.bool u.t)/\w'.cell? ⟨w.heap.size,11,none⟩=some (.slice u.b u.m u.d)/\w'.cell? ⟨w.heap.size+1,4,none⟩=some (.bool b1.s)/\w'.cell? ⟨w.heap.size+1,5,none⟩=some (.slice b1.a b1.n b1.c)/\w'.cell? ⟨w.heap.size+1,6,none⟩=some (.bool b1.t)/\w'.cell? ⟨w.heap.size+1,7,none⟩=some (.slice b1.b b1.m b1.d))
  (with_reducible first|exact(az.o _ (cf N1.o G3.o _ _ _ _ _ _ _ _))|exact(az.o _ N1.o)|exact(az.o _ br.o)|exact(az.o _ bl.o)|exact(az.o _ N0.o))
  (first
   | (have _g:=bg.o;clear _g;go_at_call 154;refine(ar.o _ _ _ (bz.o.below b5.o) bV.o).mono ?_;rintro e z1 ⟨⟨v1,rfl,au⟩,J⟩
      obtain⟨X,rfl,cg⟩:=au.rcv;have M1:Hid (Bl W z1):=ae bg.o J ρ;have N1:Hid (Below (w.heap.size+2) W z1):=ae br.o J (ψ D.o.lt);have S0:=O cg;obtain⟨⟨x0,x1,x2,x3⟩,x4,x5,x6,x7⟩:=(D.o.to M1.o).p0;clear au cg J)
   | (have _g:=a7.o;clear _g;go_at_call 31;refine(ap.o _ (ad.o.below a7.o) (ag.o.below a7.o)).mono ?_;rintro e y1 ⟨⟨v1,rfl,au⟩,J⟩
      have bg:Hid (Bl W y1):=ae a7.o J ρ;have br:Hid (Below (w.heap.size+2) W y1):=ae bl.o J (ψ D.o.lt);obtain⟨bV,b5⟩:=η2 au J;clear au J)
   | (go_at_call 31;refine(ao.o _ (ac.o.below F.o) (an.o.below F.o)).mono ?_;rintro e x1 ⟨⟨v1,rfl,au⟩,J⟩
      have a7:Hid (Bl W x1):=ae F.o J ρ;have bl:Hid (Below (w.heap.size+2) W x1):=ae N0.o J (ψ D.o.lt);have bz:=O au;clear au J))
 clear ba x0 x1 x2 x3 x4 x5 x6 x7 ao ap ar
 go_wp2_with fail
 change aN _ _ _ _ _ (put4 z1 (w.heap.size+3) 0 X);obtain⟨E1,bc,a5,bu⟩:=η4 (D.o.to M1.o) ((A.o.to M1.o).oput4 (g':=w.heap.size+3) I 0 X) ((Bb.o.to M1.o).oput4 (g':=w.heap.size+3) I 0 X) ((C.o.to M1.o).oput4 (g':=w.heap.size+3) I 0 X);obtain⟨Y,T0⟩:=η2 (E1.o.s0 X) (S0.o.put4 E1.o.p0 X);replace ab:=O ((ab.o.below M1.o).put4 E1.o.p0 X);replace ac:=O ((ac.o.below M1.o).put4 E1.o.p0 X);replace ad:=O ((ad.o.below M1.o).put4 E1.o.p0 X);replace af:=O ((af.o.below M1.o).put4 E1.o.p0 X);replace ag:=O ((ag.o.below M1.o).put4 E1.o.p0 X);replace an:=O ((an.o.below M1.o).put4 E1.o.p0 X);have K1:=O (bj (ae cl.o M1.o (ψ D.o.lt)) (Nat.le_add_right _ 3) 0 X);clear az F N0 N1 S0 bl br a7 bg bz bV b5;clear M1 E1;generalize put4 z1 (w.heap.size+3) 0 X=U1 at *;refine aN.next (fun K hK=>?_);have a3:Hid (∀w',Below (w.heap.size+2) U1 w'->w'.cell? ⟨w.heap.size,8,none⟩=some (.bool u.s)/\w'.cell? ⟨w.heap.size,9,none⟩=some (.slice u.a u.n u.c)/\w'.cell? ⟨w.heap.size,10,none⟩=some (.bool u.t)/\w'.cell? ⟨w.heap.size,11,none⟩=some (.slice u.b u.m u.d)/\Γ12 w' (w.heap.size+1) 0 (.bool E.s) (w.heap.size+1) 1 (.slice E.a E.n E.c) (w.heap.size+1) 2 (.bool E.t) (w.heap.size+1) 3 (.slice E.b E.m E.d) w.heap.size 0 (.bool i.s) w.heap.size 1 (.slice i.a i.n i.c) w.heap.size 2 (.bool i.t) w.heap.size 3 (.slice i.b i.m i.d) (w.heap.size+1) 8 (.bool b2.s) (w.heap.size+1) 9 (.slice b2.a b2.n b2.c) (w.heap.size+1) 10 (.bool b2.t) (w.heap.size+1) 11 (.slice b2.b b2.m b2.d)):=fun w' h=>by
  obtain⟨p0,p1,p2,p3⟩:=(bc.o.below h I).p2.1;obtain⟨q0,q1,q2,q3⟩:=(a5.o.below h I).p0.1;obtain⟨X,U,R,r3⟩:=(bc.o.below h I).p0.1;obtain⟨s0,s1,s2,s3⟩:=(a5.o.below h I).p2.1;exact⟨p0,p1,p2,p3,q0,q1,q2,q3,X,U,R,r3,s0,s1,s2,s3⟩
 have F:Hid (Bl U1 U1.drew):=β.drew;have N0:Hid (Below (w.heap.size+2) U1 U1.drew):=β.drew;have ba:=a3.o _ β;obtain⟨ao,ap,ar⟩:=η3 (fun v h2 h3=>dE u.agg E.agg a.z b.x k l v h2 h3 G.o.2.2 H.o.1 I) (fun v h2 h3=>dE i.agg b2.agg a.x b.z k l v h2 h3 G.o.1 H.o.2.2 I) (fun v va vb h2 h3=>jm va vb (a.z*b.x) (a.x*b.z) (k+l) (k+l) v h2 h3 (G.o.2.2.mul H.o.1) (G.o.1.mul H.o.2.2) I)
 go_wp2_with fail
 go_region_held3 (fun w'=>w'.cell? ⟨w.heap.size,8,none⟩=some (.bool u.s)/\w'.cell? ⟨w.heap.size,9,none⟩=some (.slice u.a u.n u.c)/\w'.cell? ⟨w.heap.size,10,none⟩=some (.bool u.t)/\w'.cell? ⟨w.heap.size,11,none⟩=some (.slice u.b u.m u.d)/\w'.cell? ⟨w.heap.size+1,0,none⟩=some (.bool E.s)/\w'.cell? ⟨w.heap.size+1,1,none⟩=some (.slice E.a E.n E.c)/\w'.cell? ⟨w.heap.size+1,2,none⟩=some (.bool E.t)/\w'.cell? ⟨w.heap.size+1,3,none⟩=some (.slice E.b E.m E.d)/\w'.cell? ⟨w.heap.size,0,none⟩=some (.bool i.s)/\w'.cell? ⟨w.heap.size,1,none⟩=some (.slice i.a i.n i.c)/\w'.cell? ⟨w.heap.size,2,none⟩=some (.bool i.t)/\w'.cell? ⟨w.heap.size,3,none⟩=some (.slice i.b i.m i.d)/\w'.cell? ⟨w.heap.size+1,8,none⟩=some (.bool b2.s)/\w'.cell? ⟨w.heap.size+1,9,none⟩=some (.slice b2.a b2.n b2.c)/\w'.cell? ⟨w.heap.size+1,10,none⟩=some (.bool b2.t)/\w'.cell? ⟨w.heap.size+1,11,none⟩=some (.slice b2.b b2.m b2.d))
  (with_reducible first|exact(a3.o _ (cf N2.o G3.o _ _ _ _ _ _ _ _))|exact(a3.o _ N2.o)|exact(a3.o _ bs.o)|exact(a3.o _ bm.o)|exact(a3.o _ N0.o))
  (first
   | (have _g:=bi.o;clear _g;go_at_call 154;refine(ar.o _ _ _ (bF.o.below b6.o) b3.o).mono ?_;rintro e z2 ⟨⟨v2,rfl,av⟩,L⟩
      obtain⟨U,rfl,ch⟩:=av.rcv;have M2:Hid (Bl U1 z2):=ae bi.o L ρ;have N2:Hid (Below (w.heap.size+2) U1 z2):=ae bs.o L (ψ Y.o.lt);have S1:=O ch;obtain⟨⟨x0,x1,x2,x3⟩,x4,x5,x6,x7⟩:=(Y.o.to M2.o).p1;clear av ch L)
   | (have _g:=a8.o;clear _g;go_at_call 31;refine(ap.o _ (ab.o.below a8.o) (an.o.below a8.o)).mono ?_;rintro e y2 ⟨⟨v2,rfl,av⟩,L⟩
      have bi:Hid (Bl U1 y2):=ae a8.o L ρ;have bs:Hid (Below (w.heap.size+2) U1 y2):=ae bm.o L (ψ Y.o.lt);obtain⟨b3,b6⟩:=η2 av L;clear av L)
   | (go_at_call 31;refine(ao.o _ (ad.o.below F.o) (af.o.below F.o)).mono ?_;rintro e x2 ⟨⟨v2,rfl,av⟩,L⟩
      have a8:Hid (Bl U1 x2):=ae F.o L ρ;have bm:Hid (Below (w.heap.size+2) U1 x2):=ae N0.o L (ψ Y.o.lt);have bF:=O av;clear av L))
 clear ba x0 x1 x2 x3 x4 x5 x6 x7 ao ap ar
 go_wp2_with fail
 change aN _ _ _ _ _ (put4 z2 (w.heap.size+3) 4 U);obtain⟨E2,be,a6,bv⟩:=η4 (Y.o.to M2.o) ((bc.o.to M2.o).oput4 (g':=w.heap.size+3) I 4 U) ((a5.o.to M2.o).oput4 (g':=w.heap.size+3) I 4 U) ((bu.o.to M2.o).oput4 (g':=w.heap.size+3) I 4 U);obtain⟨aa,T1⟩:=η2 (E2.o.s1 U) (S1.o.put4 E2.o.p1 U);replace ab:=O ((ab.o.below M2.o).put4 E2.o.p1 U);replace ac:=O ((ac.o.below M2.o).put4 E2.o.p1 U);replace ad:=O ((ad.o.below M2.o).put4 E2.o.p1 U);replace af:=O ((af.o.below M2.o).put4 E2.o.p1 U);replace ag:=O ((ag.o.below M2.o).put4 E2.o.p1 U);replace an:=O ((an.o.below M2.o).put4 E2.o.p1 U);replace T0:=O ((T0.o.below M2.o).put4 E2.o.p1 U);have K2:=O (bj (ae K1.o M2.o (ψ Y.o.lt)) (Nat.le_add_right _ 3) 4 U);clear a3 F N0 N2 S1 bm bs a8 bi bF b3 b6;clear M2 E2;generalize put4 z2 (w.heap.size+3) 4 U=U2 at *;refine aN.next (fun K hK=>?_);have a4:Hid (∀w',Below (w.heap.size+2) U2 w'->w'.cell? ⟨w.heap.size,0,none⟩=some (.bool i.s)/\w'.cell? ⟨w.heap.size,1,none⟩=some (.slice i.a i.n i.c)/\w'.cell? ⟨w.heap.size,2,none⟩=some (.bool i.t)/\w'.cell? ⟨w.heap.size,3,none⟩=some (.slice i.b i.m i.d)/\Γ12 w' (w.heap.size+1) 4 (.bool b1.s) (w.heap.size+1) 5 (.slice b1.a b1.n b1.c) (w.heap.size+1) 6 (.bool b1.t) (w.heap.size+1) 7 (.slice b1.b b1.m b1.d) w.heap.size 4 (.bool j.s) w.heap.size 5 (.slice j.a j.n j.c) w.heap.size 6 (.bool j.t) w.heap.size 7 (.slice j.b j.m j.d) (w.heap.size+1) 0 (.bool E.s) (w.heap.size+1) 1 (.slice E.a E.n E.c) (w.heap.size+1) 2 (.bool E.t) (w.heap.size+1) 3 (.slice E.b E.m E.d)):=fun w' h=>by
  obtain⟨p0,p1,p2,p3⟩:=(be.o.below h I).p0.1;obtain⟨q0,q1,q2,q3⟩:=(a6.o.below h I).p1.1;obtain⟨X,U,R,r3⟩:=(be.o.below h I).p1.1;obtain⟨s0,s1,s2,s3⟩:=(a6.o.below h I).p0.1;exact⟨p0,p1,p2,p3,q0,q1,q2,q3,X,U,R,r3,s0,s1,s2,s3⟩
 have F:Hid (Bl U2 U2.drew):=β.drew;have N0:Hid (Below (w.heap.size+2) U2 U2.drew):=β.drew;have ba:=a4.o _ β;obtain⟨ao,ap,ar⟩:=η3 (fun v h2 h3=>dE i.agg b1.agg a.x b.y k l v h2 h3 G.o.1 H.o.2.1 I) (fun v h2 h3=>dE j.agg E.agg a.y b.x k l v h2 h3 G.o.2.1 H.o.1 I) (fun v va vb h2 h3=>jm va vb (a.x*b.y) (a.y*b.x) (k+l) (k+l) v h2 h3 (G.o.1.mul H.o.2.1) (G.o.2.1.mul H.o.1) I)
 go_wp2_with fail
 go_region_held3 (fun w'=>w'.cell? ⟨w.heap.size,0,none⟩=some (.bool i.s)/\w'.cell? ⟨w.heap.size,1,none⟩=some (.slice i.a i.n i.c)/\w'.cell? ⟨w.heap.size,2,none⟩=some (.bool i.t)/\w'.cell? ⟨w.heap.size,3,none⟩=some (.slice i.b i.m i.d)/\w'.cell? ⟨w.heap.size+1,4,none⟩=some (.bool b1.s)/\w'.cell? ⟨w.heap.size+1,5,none⟩=some (.slice b1.a b1.n b1.c)/\w'.cell? ⟨w.heap.size+1,6,none⟩=some (.bool b1.t)/\w'.cell? ⟨w.heap.size+1,7,none⟩=some (.slice b1.b b1.m b1.d)/\w'.cell? ⟨w.heap.size,4,none⟩=some (.bool j.s)/\w'.cell? ⟨w.heap.size,5,none⟩=some (.slice j.a j.n j.c)/\w'.cell? ⟨w.heap.size,6,none⟩=some (.bool j.t)/\w'.cell? ⟨w.heap.size,7,none⟩=some (.slice j.b j.m j.d)/\w'.cell? ⟨w.heap.size+1,0,none⟩=some (.bool E.s)/\w'.cell? ⟨w.heap.size+1,1,none⟩=some (.slice E.a E.n E.c)/\w'.cell? ⟨w.heap.size+1,2,none⟩=some (.bool E.t)/\w'.cell? ⟨w.heap.size+1,3,none⟩=some (.slice E.b E.m E.d))
  (with_reducible first|exact(a4.o _ (cf N3.o G3.o _ _ _ _ _ _ _ _))|exact(a4.o _ N3.o)|exact(a4.o _ bt.o)|exact(a4.o _ bp.o)|exact(a4.o _ N0.o))
  (first
   | (have _g:=bk.o;clear _g;go_at_call 154;refine(ar.o _ _ _ (bI.o.below b7.o) b4.o).mono ?_;rintro e z3 ⟨⟨v3,rfl,aw⟩,Q⟩
      obtain⟨R,rfl,ci⟩:=aw.rcv;have M3:Hid (Bl U2 z3):=ae bk.o Q ρ;have N3:Hid (Below (w.heap.size+2) U2 z3):=ae bt.o Q (ψ aa.o.lt);have S2:=O ci;obtain⟨⟨x0,x1,x2,x3⟩,x4,x5,x6,x7⟩:=(aa.o.to M3.o).p2;clear aw ci Q)
   | (have _g:=a9.o;clear _g;go_at_call 31;refine(ap.o _ (ac.o.below a9.o) (af.o.below a9.o)).mono ?_;rintro e y3 ⟨⟨v3,rfl,aw⟩,Q⟩
      have bk:Hid (Bl U2 y3):=ae a9.o Q ρ;have bt:Hid (Below (w.heap.size+2) U2 y3):=ae bp.o Q (ψ aa.o.lt);obtain⟨b4,b7⟩:=η2 aw Q;clear aw Q)
   | (go_at_call 31;refine(ao.o _ (ab.o.below F.o) (ag.o.below F.o)).mono ?_;rintro e x3 ⟨⟨v3,rfl,aw⟩,Q⟩
      have a9:Hid (Bl U2 x3):=ae F.o Q ρ;have bp:Hid (Below (w.heap.size+2) U2 x3):=ae N0.o Q (ψ aa.o.lt);have bI:=O aw;clear aw Q))
 clear ba x0 x1 x2 x3 x4 x5 x6 x7 ao ap ar
 go_wp2_with fail
 change aN _ _ _ _ _ (put4 z3 (w.heap.size+3) 8 R);obtain⟨E3,cn,cm,ay⟩:=η4 (aa.o.to M3.o) ((be.o.to M3.o).oput4 (g':=w.heap.size+3) I 8 R) ((a6.o.to M3.o).oput4 (g':=w.heap.size+3) I 8 R) ((bv.o.to M3.o).oput4 (g':=w.heap.size+3) I 8 R);obtain⟨bf,T2⟩:=η2 (E3.o.s2 R) (S2.o.put4 E3.o.p2 R);replace ab:=O ((ab.o.below M3.o).put4 E3.o.p2 R);replace ac:=O ((ac.o.below M3.o).put4 E3.o.p2 R);replace ad:=O ((ad.o.below M3.o).put4 E3.o.p2 R);replace af:=O ((af.o.below M3.o).put4 E3.o.p2 R);replace ag:=O ((ag.o.below M3.o).put4 E3.o.p2 R);replace an:=O ((an.o.below M3.o).put4 E3.o.p2 R);replace T0:=O ((T0.o.below M3.o).put4 E3.o.p2 R);replace T1:=O ((T1.o.below M3.o).put4 E3.o.p2 R);have K3:=O (bj (ae K2.o M3.o (ψ aa.o.lt)) (Nat.le_add_right _ 3) 8 R);clear a4 F N0 N3 S2 bp bt a9 bk bI b4 b7;clear M3 E3;generalize put4 z3 (w.heap.size+3) 8 R=U3 at *;refine aN.next (fun K hK=>?_);obtain⟨⟨x0,x1,x2,x3⟩,-⟩:=bf.o.p0;obtain⟨⟨x4,x5,x6,x7⟩,-⟩:=bf.o.p1;obtain⟨⟨x8,x9,cs,cu⟩,-⟩:=bf.o.p2;obtain⟨⟨y0,y1,y2,y3⟩,f0,f1,f2,f3⟩:=ay.o.p0;obtain⟨⟨y4,y5,y6,y7⟩,f4,f5,f6,f7⟩:=ay.o.p1;obtain⟨⟨y8,y9,cv,cy⟩,f8,f9,cq,cr⟩:=ay.o.p2;go_wp2;exact aK results153 (w.heap.size+2) (ay.o.s12 X U R) _ rfl underlying57 rfl aZ rfl
  ⟨⟨_,rfl,X,U,R,rfl,T0.o.put12 ay.o _ _ _,T1.o.put12 ay.o _ _ _,T2.o.put12 ay.o _ _ _⟩,aX K3.o I _ _ _⟩
theorem VDet_any(va vb vc:Value)(a b c:Q3)(k:Nat)(w:World)(ha:am w va a)(hb:am w vb b)(hc:am w vc c)(hk:BdV k a)(hl:BdV k b)(hm:BdV k c)(h1:k<30000):
 Calls prog 107 #[va,vb,vc] w fun e w'=>eh w' e (aT a (eL b c))/\Bl w w':=by
 obtain⟨hD,hX,HA,ad,af⟩:=η5 (fun v x y h2 h3=>ji x y a (eL b c) k (2*(k+k)+1) v h2 h3 hk (hl.cross hm) I) (fun v x y h2 h3=>VCross_any x y b c k k v h2 h3 hl hm I) ha hb hc;obtain⟨i,j,u,rfl,-⟩:=ha;obtain⟨F,b1,b2,rfl,-⟩:=hb;obtain⟨G,c1,c2,rfl,-⟩:=hc;obtain⟨W,hW,d1,d2,d3,d4,hB,hS⟩:=nC w (ah i j u) (ah F b1 b2) (ah G c1 c2) #[.bool false,.slice none 0 0,.bool false,.slice none 0 0] 57 57 57 55;obtain⟨A,Bb,C,D,J,H⟩:=η6 d1 d2 d3 d4 hB hS;have G3:Hid (w.heap.size+3<=w.heap.size+1+1+1):=by show _<=_;omega
 clear hk hl hm h1 d1 d2 d3 d4 hB hS;have Y:Hid (∀w',Below (w.heap.size+3) W w'->w'.cell? ⟨w.heap.size,0,none⟩=some (.bool i.s)/\w'.cell? ⟨w.heap.size,1,none⟩=some (.slice i.a i.n i.c)/\w'.cell? ⟨w.heap.size,2,none⟩=some (.bool i.t)/\w'.cell? ⟨w.heap.size,3,none⟩=some (.slice i.b i.m i.d)/\w'.cell? ⟨w.heap.size,4,none⟩=some (.bool j.s)/\w'.cell? ⟨w.heap.size,5,none⟩=some (.slice j.a j.n j.c)/\w'.cell? ⟨w.heap.size,6,none⟩=some (.bool j.t)/\w'.cell? ⟨w.heap.size,7,none⟩=some (.slice j.b j.m j.d)/\w'.cell? ⟨w.heap.size,8,none⟩=some (.bool u.s)/\w'.cell? ⟨w.heap.size,9,none⟩=some (.slice u.a u.n u.c)/\w'.cell? ⟨w.heap.size,10,none⟩=some (.bool u.t)/\w'.cell? ⟨w.heap.size,11,none⟩=some (.slice u.b u.m u.d)/\w'.cell? ⟨w.heap.size+1,0,none⟩=some (.bool F.s)/\w'.cell? ⟨w.heap.size+1,1,none⟩=some (.slice F.a F.n F.c)/\w'.cell? ⟨w.heap.size+1,2,none⟩=some (.bool F.t)/\w'.cell? ⟨w.heap.size+1,3,none⟩=some (.slice F.b F.m F.d)/\w'.cell? ⟨w.heap.size+1,4,none⟩=some (.bool b1.s)/\w'.cell? ⟨w.heap.size+1,5,none⟩=some (.slice b1.a b1.n b1.c)/\w'.cell? ⟨w.heap.size+1,6,none⟩=some (.bool b1.t)/\w'.cell? ⟨w.heap.size+1,7,none⟩=some (.slice b1.b b1.m b1.d)/\w'.cell? ⟨w.heap.size+1,8,none⟩=some (.bool b2.s)/\w'.cell? ⟨w.heap.size+1,9,none⟩=some (.slice b2.a b2.n b2.c)/\w'.cell? ⟨w.heap.size+1,10,none⟩=some (.bool b2.t)/\w'.cell? ⟨w.heap.size+1,11,none⟩=some (.slice b2.b b2.m b2.d)/\Γ12 w' (w.heap.size+2) 0 (.bool G.s) (w.heap.size+2) 1 (.slice G.a G.n G.c) (w.heap.size+2) 2 (.bool G.t) (w.heap.size+2) 3 (.slice G.b G.m G.d) (w.heap.size+2) 4 (.bool c1.s) (w.heap.size+2) 5 (.slice c1.a c1.n c1.c) (w.heap.size+2) 6 (.bool c1.t) (w.heap.size+2) 7 (.slice c1.b c1.m c1.d) (w.heap.size+2) 8 (.bool c2.s) (w.heap.size+2) 9 (.slice c2.a c2.n c2.c) (w.heap.size+2) 10 (.bool c2.t) (w.heap.size+2) 11 (.slice c2.b c2.m c2.d)):=fun w' h=>by
  have hA:=A.o.below h I;have Q:=Bb.o.below h I;have hC:=C.o.below h I;obtain⟨p0,p1,p2,p3⟩:=hA.p0.1;obtain⟨p4,p5,p6,p7⟩:=hA.p1.1;obtain⟨p8,p9,an,ao⟩:=hA.p2.1;obtain⟨q0,q1,q2,q3⟩:=Q.p0.1;obtain⟨q4,q5,q6,q7⟩:=Q.p1.1;obtain⟨q8,q9,ap,ar⟩:=Q.p2.1;obtain⟨r0,r1,r2,r3⟩:=hC.p0.1;obtain⟨r4,r5,r6,r7⟩:=hC.p1.1;obtain⟨r8,r9,au,av⟩:=hC.p2.1;exact⟨p0,p1,p2,p3,p4,p5,p6,p7,p8,p9,an,ao,q0,q1,q2,q3,q4,q5,q6,q7,q8,q9,ap,ar,r0,r1,r2,r3,r4,r5,r6,r7,r8,r9,au,av⟩
 have L:Hid (Bl W W.drew):=β.drew;have N0:Hid (Below (w.heap.size+3) W W.drew):=β.drew;have ag:=Y.o _ β;unfold ah at hW⊢
 go_enter func107,ntmps107
 go_wp2_with fail
 go_region_held3 (fun w'=>w'.cell? ⟨w.heap.size,0,none⟩=some (.bool i.s)/\w'.cell? ⟨w.heap.size,1,none⟩=some (.slice i.a i.n i.c)/\w'.cell? ⟨w.heap.size,2,none⟩=some (.bool i.t)/\w'.cell? ⟨w.heap.size,3,none⟩=some (.slice i.b i.m i.d)/\w'.cell? ⟨w.heap.size,4,none⟩=some (.bool j.s)/\w'.cell? ⟨w.heap.size,5,none⟩=some (.slice j.a j.n j.c)/\w'.cell? ⟨w.heap.size,6,none⟩=some (.bool j.t)/\w'.cell? ⟨w.heap.size,7,none⟩=some (.slice j.b j.m j.d)/\w'.cell? ⟨w.heap.size,8,none⟩=some (.bool u.s)/\w'.cell? ⟨w.heap.size,9,none⟩=some (.slice u.a u.n u.c)/\w'.cell? ⟨w.heap.size,10,none⟩=some (.bool u.t)/\w'.cell? ⟨w.heap.size,11,none⟩=some (.slice u.b u.m u.d)/\w'.cell? ⟨w.heap.size+1,0,none⟩=some (.bool F.s)/\w'.cell? ⟨w.heap.size+1,1,none⟩=some (.slice F.a F.n F.c)/\w'.cell? ⟨w.heap.size+1,2,none⟩=some (.bool F.t)/\w'.cell? ⟨w.heap.size+1,3,none⟩=some (.slice F.b F.m F.d)/\w'.cell? ⟨w.heap.size+1,4,none⟩=some (.bool b1.s)/\w'.cell? ⟨w.heap.size+1,5,none⟩=some (.slice b1.a b1.n b1.c)/\w'.cell? ⟨w.heap.size+1,6,none⟩=some (.bool b1.t)/\w'.cell? ⟨w.heap.size+1,7,none⟩=some (.slice b1.b b1.m b1.d)/\w'.cell? ⟨w.heap.size+1,8,none⟩=some (.bool b2.s)/\w'.cell? ⟨w.heap.size+1,9,none⟩=some (.slice b2.a b2.n b2.c)/\w'.cell? ⟨w.heap.size+1,10,none⟩=some (.bool b2.t)/\w'.cell? ⟨w.heap.size+1,11,none⟩=some (.slice b2.b b2.m b2.d)/\w'.cell? ⟨w.heap.size+2,0,none⟩=some (.bool G.s)/\w'.cell? ⟨w.heap.size+2,1,none⟩=some (.slice G.a G.n G.c)/\w'.cell? ⟨w.heap.size+2,2,none⟩=some (.bool G.t)/\w'.cell? ⟨w.heap.size+2,3,none⟩=some (.slice G.b G.m G.d)/\w'.cell? ⟨w.heap.size+2,4,none⟩=some (.bool c1.s)/\w'.cell? ⟨w.heap.size+2,5,none⟩=some (.slice c1.a c1.n c1.c)/\w'.cell? ⟨w.heap.size+2,6,none⟩=some (.bool c1.t)/\w'.cell? ⟨w.heap.size+2,7,none⟩=some (.slice c1.b c1.m c1.d)/\w'.cell? ⟨w.heap.size+2,8,none⟩=some (.bool c2.s)/\w'.cell? ⟨w.heap.size+2,9,none⟩=some (.slice c2.a c2.n c2.c)/\w'.cell? ⟨w.heap.size+2,10,none⟩=some (.bool c2.t)/\w'.cell? ⟨w.heap.size+2,11,none⟩=some (.slice c2.b c2.m c2.d))
  (with_reducible first|exact(Y.o _ (cf N2.o G3.o _ _ _ _ _ _ _ _))|exact(Y.o _ N2.o)|exact(Y.o _ N1.o)|exact(Y.o _ N0.o))
  (first
   | (have _g:=M1.o;clear _g;go_at_call 65;refine(hD.o _ _ _ (HA.o.below (ae J.o M1.o (ψ H.o))) P1.o).mono ?_;rintro e y1 ⟨⟨v1,rfl,ac⟩,X⟩
      obtain⟨r,rfl,hr⟩:=ac.rcv;have M2:Hid (Bl W y1):=ae M1.o X ρ;have N2:Hid (Below (w.heap.size+3) W y1):=ae N1.o X (ψ H.o);have R:=O hr;obtain⟨x0,x1,x2,x3,x4,x5,x6,x7⟩:=(D.o.to M2.o).four;clear ac hr X)
   | (go_at_call 153;refine(hX.o _ _ _ (ad.o.below (ae J.o L.o (ψ H.o))) (af.o.below (ae J.o L.o (ψ H.o)))).mono ?_;rintro e y0 ⟨⟨v0,rfl,ab⟩,U⟩
      have M1:Hid (Bl W y0):=ae L.o U ρ;have N1:Hid (Below (w.heap.size+3) W y0):=ae N0.o U (ψ H.o);have P1:=O ab;clear ab U))
 clear ag;obtain⟨E,aa⟩:=η2 (D.o.to M2.o) (ae J.o M2.o (ψ H.o));clear x0 x1 x2 x3 x4 x5 x6 x7
 go_wp2_with fail
 obtain⟨x0,x1,x2,x3,-⟩:=(E.o.set4 (.bool r.s) (.slice r.a r.n r.c) (.bool r.t) (.slice r.b r.m r.d)).four;go_wp2;exact aK results107 (w.heap.size+3) (E.o.set4 (.bool r.s) (.slice r.a r.n r.c) (.bool r.t) (.slice r.b r.m r.d)) _ rfl underlying55 rfl bD rfl
  ⟨⟨_,rfl,R.o.store4 E.o _ _ _ _⟩,aW aa.o I _ _ _ _⟩
def rA(x:Int)(d:Nat):Int:=x / (Int.gcd x d:Nat)*d
def bT(a:Q3):Nat->Int
 | 0=>1
 | i+1=>rA (bT a i) (a.at i).den
theorem lcmI_pos{x:Int}{d:Nat}(u:0<x)(A:0<d):0<rA x d/\rA x d<=x*d:=by
 have C:0<Int.gcd x d:=Int.gcd_pos_of_ne_zero_left _ I;have e:((Int.gcd x d:Nat):Int)∣x:=Int.gcd_dvd_left ..;have i:x / (Int.gcd x d:Nat)<=x:=Int.ediv_le_self _ I;have j:0<x / (Int.gcd x d:Nat):=Int.ediv_pos_of_pos_of_dvd u I e;unfold rA;exact⟨Int.mul_pos j I,Int.mul_le_mul_of_nonneg_right i I⟩
theorem fY{a:Q3}{k:Nat}(e:BdV k a):∀i,i<=3->0<bT a i/\(bT a i).natAbs<B ^ (i*k+1)
 | 0,_=>⟨by show(0:Int)<1;omega,by show 1<B ^ (0*k+1);unfold B;rw[Nat.zero_mul];omega⟩
 | i+1,h=>by
  have j:=fY e i I;have hb:Bd k (a.at i):=by
   match i,h with
   | 0,_=>exact e.1
   | 1,_=>exact e.2.1
   | 2,_=>exact e.2.2
  have A:=(a.at i).den_pos;have C:=lcmI_pos j.1 A;refine⟨C.1,?_⟩;show(rA (bT a i) (a.at i).den).natAbs<_;have E:(rA (bT a i) (a.at i).den).natAbs<=(bT a i).natAbs*(a.at i).den:=by
   have:(bT a i*(a.at i).den:Int).natAbs=(bT a i).natAbs*(a.at i).den:=by rw[Int.natAbs_mul];rfl
   omega
  have u:=Nat.mul_lt_mul_of_lt_of_le j.2 (Nat.le_of_lt hb.2) (Nat.pos_of_ne_zero (by unfold B;exact Nat.ne_of_gt (Nat.pow_pos I)));rw[<-Nat.pow_add,show i*k+1+k=(i+1)*k+1 by rw[Nat.add_mul];omega]at u;omega
theorem SD3b{a:Q3}{k:Nat}(D:Int)(hD:bT a 3=D)(e:BdV k a):D.natAbs<B ^ (3*k+1):=by rw[<-hD];exact(fY e 3 I).2
def gR(a:Q3):Nat->Nat
 | 0=>0
 | i+1=>Int.gcd (gR a i:Nat) (a.at i).num
theorem gcd_lt{x y b:Nat}(e:x<b)(i:y<b):Nat.gcd x y<b:=by
 by_cases h:x=0
 ·rw[h,Nat.gcd_zero_left];exact i
 ·exact Nat.lt_of_le_of_lt (Nat.gcd_le_left _ (Nat.pos_of_ne_zero h)) e
theorem oU{a:Q3}{k:Nat}(e:BdV k a):∀i,((gR a i:Nat):Int).natAbs<B ^ k
 | 0=>by show 0<B ^ k;exact Nat.pow_pos (by unfold B;omega)
 | i+1=>by
  have hb:Bd k (a.at i):=by
   match i with
   | 0=>exact e.1
   | 1=>exact e.2.1
   | _+2=>exact e.2.2
  exact gcd_lt (oU e i) hb.1
theorem cells3_inj{e i j s0 s1 s2:RC}(h:Value.agg #[.bool e.s,.slice e.a e.n e.c,.bool e.t,.slice e.b e.m e.d,.bool i.s,.slice i.a i.n i.c,.bool i.t,.slice i.b i.m i.d,.bool j.s,.slice j.a j.n j.c,.bool j.t,.slice j.b j.m j.d]=.agg (ah s0 s1 s2)):e.agg=s0.agg/\i.agg=s1.agg/\j.agg=s2.agg:=by
 unfold ah at h;simp only[Value.agg.injEq,Array.mk.injEq,List.cons.injEq,Value.bool.injEq,Value.slice.injEq]at h;unfold RC.agg;simp only[Value.agg.injEq,Array.mk.injEq,List.cons.injEq,Value.bool.injEq,Value.slice.injEq,and_true];simp only[h,and_self]
theorem qt{b:Q3}(h:b≠⟨0,0,0⟩):0<gR b 3:=by
 refine Nat.pos_of_ne_zero fun h0=>h ?_
 have e:Int.gcd (Int.gcd (Int.gcd (0:Nat) b.x.num:Nat) b.y.num:Nat) b.z.num=0:=h0;obtain⟨A,i⟩:=Int.gcd_eq_zero_iff.mp e;obtain⟨C,j⟩:=Int.gcd_eq_zero_iff.mp (show Int.gcd (Int.gcd (0:Nat) b.x.num:Nat) b.y.num=0 by omega);obtain⟨-,u⟩:=Int.gcd_eq_zero_iff.mp (show Int.gcd (0:Nat) b.x.num=0 by omega);obtain⟨x,y,z⟩:=b;rw[show x=0 from Rat.num_eq_zero.mp u,show y=0 from Rat.num_eq_zero.mp j,show z=0 from Rat.num_eq_zero.mp i]
def cE(a:Q3):Q3:=
 ⟨Rat.divInt 1 (gR ⟨(bT a 3:Rat)*a.x,(bT a 3:Rat)*a.y,(bT a 3:Rat)*a.z⟩ 3:Nat)*((bT a 3:Rat)*a.x),Rat.divInt 1 (gR ⟨(bT a 3:Rat)*a.x,(bT a 3:Rat)*a.y,(bT a 3:Rat)*a.z⟩ 3:Nat)*((bT a 3:Rat)*a.y),Rat.divInt 1 (gR ⟨(bT a 3:Rat)*a.x,(bT a 3:Rat)*a.y,(bT a 3:Rat)*a.z⟩ 3:Nat)*((bT a 3:Rat)*a.z)⟩
def qW(w:World)(e:Ending)(q:Q3):Prop:=∃v,e=.returned (.tuple #[v,.int .i64 0])/\am w v q
theorem sr:Small 1:=⟨1,by omega,by show 1<B ^ 1;unfold B;omega⟩
theorem Bd.at{k:Nat}{a:Q3}(e:BdV k a):∀i,Bd k (a.at i)
 | 0=>e.1
 | 1=>e.2.1
 | _+2=>e.2.2
theorem sV(va:Value)(a:Q3)(k:Nat)(w:World)(ha:am w va a)(hk:BdV k a)(ec:k<=10000)(h0:a≠⟨0,0,0⟩):
 Calls prog 82 #[va] w fun e w'=>qW w' e (cE a)/\Bl w w':=by
 obtain⟨HZ,HA,HK,H0⟩:=η4 (fun v x h2=>VIsZero_any x a k v h2 hk I) ha hk h0;obtain⟨Q,R,X,rfl,cU,cV,c0⟩:=ha;obtain⟨W,hW,c1,c2,cy,hS⟩:=bU w (ah Q R X) (ah RC.zero RC.zero RC.zero) 57 57;obtain⟨dd,de,dk,ce,dl,A,C⟩:=η7 cU cV c0 cy hS c1 c2;obtain⟨⟨x0,x1,x2,x3⟩,-⟩:=c1.p0;obtain⟨⟨x4,x5,x6,x7⟩,-⟩:=c1.p1;obtain⟨⟨x8,x9,ag,an⟩,-⟩:=c1.p2;clear c1 c2 cy hS hk h0 cU cV c0;rw[lS]at hW;have i0:∀w,(Instr.index 57 (.agg #[.bool Q.s,.slice Q.a Q.n Q.c,.bool Q.t,.slice Q.b Q.m Q.d,.bool R.s,.slice R.a R.n R.c,.bool R.t,.slice R.b R.m R.d,.bool X.s,.slice X.a X.n X.c,.bool X.t,.slice X.b X.m X.d]) (.int .i64 0)).run prog w=.ok (.agg #[.bool Q.s,.slice Q.a Q.n Q.c,.bool Q.t,.slice Q.b Q.m Q.d]) w:=fun _=>by kernel_rfl
 have i1:∀w,(Instr.index 57 (.agg #[.bool Q.s,.slice Q.a Q.n Q.c,.bool Q.t,.slice Q.b Q.m Q.d,.bool R.s,.slice R.a R.n R.c,.bool R.t,.slice R.b R.m R.d,.bool X.s,.slice X.a X.n X.c,.bool X.t,.slice X.b X.m X.d]) (.int .i64 1)).run prog w=.ok (.agg #[.bool R.s,.slice R.a R.n R.c,.bool R.t,.slice R.b R.m R.d]) w:=fun _=>by kernel_rfl
 have i2:∀w,(Instr.index 57 (.agg #[.bool Q.s,.slice Q.a Q.n Q.c,.bool Q.t,.slice Q.b Q.m Q.d,.bool R.s,.slice R.a R.n R.c,.bool R.t,.slice R.b R.m R.d,.bool X.s,.slice X.a X.n X.c,.bool X.t,.slice X.b X.m X.d]) (.int .i64 2)).run prog w=.ok (.agg #[.bool X.s,.slice X.a X.n X.c,.bool X.t,.slice X.b X.m X.d]) w:=fun _=>by kernel_rfl
 unfold ah at hW⊢
 go_enter func82,ntmps82
 go_wp2_with fail
 refine(HZ.o _ _ (HA.o.below ce.o)).mono ?_;rintro e w1 ⟨⟨r,rfl,hr⟩,F⟩;have ek:r=false:=by
  cases r
  ·rfl
  ·exact absurd (hr.mp rfl) H0.o
 subst ek;obtain⟨L1,B1,C1⟩:=η3 (ae ce.o F (ψ dl.o)) (A.o.to F) (C.o.to F);clear hr F x0 x1 x2 x3 x4 x5 x6 x7 x8 x9 ag an
 go_wp2_with fail
 refine(jn 1 _ I I).mono ?_;rintro e w2 ⟨⟨v2,rfl,bv⟩,E⟩;obtain⟨L2,B2,C2,V2⟩:=η4 (ae L1.o E I) (B1.o.to E) (C1.o.to E) bv;obtain⟨s2,e2,n2,m2,d2,rfl,-⟩:=bv;have E2:=B2.o.old (.cells #[.bool s2,.slice e2 n2 m2] 53);obtain⟨⟨x0,x1,x2,x3⟩,-⟩:=E2.p0;obtain⟨⟨x4,x5,x6,x7⟩,-⟩:=E2.p1;obtain⟨⟨x8,x9,ag,an⟩,-⟩:=E2.p2;have G2:=O B2.o.lt;clear E
 go_wp2_with fail
 clear x0 x1 x2 x3 x4 x5 x6 x7 x8 x9 ag an E2
 go_loopw [22] (fun iv wr=>∃i:Nat,i<=3/\iv=.int .i64 (i:Nat)/\∃s3 e3 n3 m3,Hid (Box wr w2.heap.size #[.bool s3,.slice e3 n3 m3] 53)/\Hid (aO wr (.agg #[.bool s3,.slice e3 n3 m3]) (bT a i))/\Hid (Bl w2 wr)) (fun iv _=>3-(intOf iv).toNat)
 case atStart=>exact⟨0,by omega,rfl,s2,e2,n2,m2,Box.new _ _ _ _ rfl,V2.o.below (β.alloc ρ _),β.alloc ρ _⟩
 case round =>
  obtain⟨i,hi,rfl,s3,e3,n3,m3,bk,ch,HR⟩:=hrel;obtain⟨w3,rfl⟩:=φ wr;by_cases h3:i=3
  ·subst h3
   have cg:=ch;have a9:=bk;have cq:Hid (Small (bT a 3)):=⟨3*k+1,by omega,(fY HK.o 3 I).2⟩;have cc:=O (fY HK.o 3 I).1;obtain⟨D,hD⟩:=χ (bT a 3);rw[hD]at cg cq cc;have ap:=O hD;clear hD;have KA:Hid (∀w',Bl w3 w'->Γ2 w' w2.heap.size 0 (.bool s3) w2.heap.size 1 (.slice e3 n3 m3)):=fun w' h=>by
    obtain⟨p0,p1,-,-⟩:=(a9.o.to h).two;exact⟨p0,p1⟩
   have P0:=O (Below.refl w3.heap.size w3);have cp:Hid (Bl w3 w3.drew):=P0.o.drew;have be:=KA.o _ P0.o;obtain⟨L3,B3⟩:=η2 (ae L2.o HR.o (ψ G2.o)) (B2.o.below HR.o G2.o);have C3:=O (C2.o.below HR.o (by have:=C2.o.lt;exact this))
   go_upto_region 10 with fail
   go_cut [10] (fun pv wy=>∃(gw:Nat) (ab:RC),pv=.pointer (some ⟨gw,0,none⟩)/\Hid (Box wy gw #[.bool ab.s,.slice ab.a ab.n ab.c,.bool ab.t,.slice ab.b ab.m ab.d] 55)/\Hid (ak wy ab.agg (Rat.divInt D 1))/\Hid (Bl w3 wy)/\Hid (w3.heap.size<=gw))
   case first =>
    go_wp2_with fail
    go_region_held3 (fun w'=>w'.cell? ⟨w2.heap.size,0,none⟩=some (.bool s3)/\w'.cell? ⟨w2.heap.size,1,none⟩=some (.slice e3 n3 m3))
     (with_reducible first|exact(KA.o _ P2.o)|exact(KA.o _ (P2.o.alloc P2.o.size _))|exact(KA.o _ P1.o)|exact(KA.o _ (P1.o.alloc P1.o.size _))|exact(KA.o _ cp.o)|exact(KA.o _ (P0.o.alloc P0.o.size _).drew)|exact(KA.o _ (cf P2.o PL.o _ _ _ _ _ _ _ _))|exact(KA.o _ (cf (P2.o.alloc P2.o.size _) P2.o.size _ _ _ _ _ _ _ _)))
     (first
      | (have _g:=P1.o;clear _g;go_at_call 119;refine(Make_any _ _ D 1 _ (cg.o.below dZ) (dx.o.below (by with_reducible first|exact β|exact(β.alloc ρ _))) cq.o sr I).mono ?_;rintro e p2 ⟨⟨eu,rfl,bf⟩,E⟩
         obtain⟨P2,ey,ev⟩:=η3 (show Bl w3 p2 from ae dZ E ρ) (show Bl p1 p2 from ae dZ E ρ) bf;obtain⟨wh,rfl,ep⟩:=bf.rcv;have PV:=O ep
         first
          | (have PB:=O (show Box p2 _ _ _ from by with_reducible exact PB.o.to E))
          | (have PB:=O (show Box p2 _ #[.bool false,.slice none 0 0,.bool false,.slice none 0 0] 55 from by with_reducible exact(Box.new _ _ _ _ rfl).below E (Box.new _ _ _ _ rfl).lt)
             have PL:=O P1.o.size)
          | skip
         try have aa:=Nat.ne_of_lt PB.o.lt
         try have a8:=aa.symm
         try obtain⟨n0,n1,n2,n3,n4,n5,n6,n7⟩:=PB.o.four
         clear E)
      | (go_at_call 70;refine(jn 1 _ I I).mono ?_;rintro e p1 ⟨⟨et,rfl,b8⟩,F⟩
         obtain⟨P1,ex,dx⟩:=η3 (show Bl w3 p1 from ae dZ F ρ) (show Bl w3 p1 from ae dZ F ρ) b8
         first
          | (have PB:=O (show Box p1 _ #[.bool false,.slice none 0 0,.bool false,.slice none 0 0] 55 from by with_reducible exact(Box.new _ _ _ _ rfl).drew.below F (Box.new _ _ _ _ rfl).drew.lt)
             have PL:=O P0.o.size)
          | skip
         try have aa:=Nat.ne_of_lt PB.o.lt
         try have a8:=aa.symm
         try obtain⟨n0,n1,n2,n3,n4,n5,n6,n7⟩:=PB.o.four
         clear F))
    all_goals
     go_wp2_with fail
     go_meet
    all_goals first
     | (with_reducible exact⟨_,wh,rfl,O (Box.new _ _ _ _ rfl),O (PV.o.below (β.alloc ρ _)),O (P2.o.alloc P2.o.size _),O P2.o.size⟩)
     | (with_reducible exact⟨_,wh,rfl,O (PB.o.set4 _ _ _ _),O (PV.o.store4 PB.o _ _ _ _),O (cf P2.o PL.o _ _ _ _ _ _ _ _),O PL.o⟩)
   case rest =>
   obtain⟨gw,ab,rfl,eo,eq,bs,e0⟩:=hcut;clear be KA P0 cp;have bz:ak wc ab.agg (D:Rat):=by have:=eq.o;rwa [lJ]at this
   have BD:Bd (3*k+1) (D:Rat):=⟨SD3b D ap.o HK.o,by show 1<B ^ (3*k+1);exact Nat.lt_of_lt_of_le (by unfold B;omega:1<B ^ 1) (Nat.pow_le_pow_right (by unfold B;omega) I)⟩;have a6:=O (dq (.agg (ah Q R X)) ab.agg a (D:Rat) (3*k+1) k wc (HA.o.below (ae L3.o bs.o (ψ L3.o.size))) bz BD HK.o I);have ao:Hid (BdV (4*k+1) ⟨(D:Rat)*a.x,(D:Rat)*a.y,(D:Rat)*a.z⟩):=by
    have h1:=BD.mul HK.o.1;have h2:=BD.mul HK.o.2.1;have h3:=BD.mul HK.o.2.2;rw[show 3*k+1+k=4*k+1 by omega]at h1 h2 h3;exact⟨h1,h2,h3⟩
   obtain⟨aw,b5⟩:∃aw:Q3,(⟨(D:Rat)*a.x,(D:Rat)*a.y,(D:Rat)*a.z⟩:Q3)=aw:=⟨_,rfl⟩;rw[b5]at a6 ao;obtain⟨bI,L4⟩:=η2 b5 (ae L3.o bs.o (ψ L3.o.size));have gA:w.heap.size<w3.heap.size:=B3.o.lt;have gC:w.heap.size+1<w3.heap.size:=C3.o.lt;obtain⟨B4,C4⟩:=η2 (B3.o.below bs.o gA) (C3.o.below bs.o gC);obtain⟨⟨x0,x1,x2,x3⟩,-⟩:=B4.o.p0;obtain⟨⟨x4,x5,x6,x7⟩,-⟩:=B4.o.p1;obtain⟨⟨x8,x9,ag,an⟩,-⟩:=B4.o.p2;obtain⟨y0,y1,y2,y3,-⟩:=eo.o.four;unfold ah RC.agg at a6;clear bz BD b5
   go_wp2_with fail
   refine a6.o.mono ?_;rintro e w5 ⟨⟨v5,rfl,c8⟩,a3⟩;obtain⟨H,J,L,rfl,hr⟩:=c8.rcv;obtain⟨R5,L5⟩:=η2 hr (ae L4.o a3 (ψ L4.o.size));have dA:=B4.o.lt;have d0:=C4.o.lt;obtain⟨B5,C5⟩:=η2 (B4.o.below a3 dA) (C4.o.below a3 d0);obtain⟨⟨x0,x1,x2,x3⟩,f0,f1,f2,f3⟩:=B5.o.p0;obtain⟨⟨x4,x5,x6,x7⟩,f4,f5,f6,f7⟩:=B5.o.p1;obtain⟨⟨x8,x9,ag,an⟩,f8,f9,cu,cv⟩:=B5.o.p2;clear c8 hr a3 y0 y1 y2 y3;have j0:∀w,(Instr.index 57 (.agg #[.bool H.s,.slice H.a H.n H.c,.bool H.t,.slice H.b H.m H.d,.bool J.s,.slice J.a J.n J.c,.bool J.t,.slice J.b J.m J.d,.bool L.s,.slice L.a L.n L.c,.bool L.t,.slice L.b L.m L.d]) (.int .i64 0)).run prog w=.ok (.agg #[.bool H.s,.slice H.a H.n H.c,.bool H.t,.slice H.b H.m H.d]) w:=fun _=>by kernel_rfl
   have j1:∀w,(Instr.index 57 (.agg #[.bool H.s,.slice H.a H.n H.c,.bool H.t,.slice H.b H.m H.d,.bool J.s,.slice J.a J.n J.c,.bool J.t,.slice J.b J.m J.d,.bool L.s,.slice L.a L.n L.c,.bool L.t,.slice L.b L.m L.d]) (.int .i64 1)).run prog w=.ok (.agg #[.bool J.s,.slice J.a J.n J.c,.bool J.t,.slice J.b J.m J.d]) w:=fun _=>by kernel_rfl
   have j2:∀w,(Instr.index 57 (.agg #[.bool H.s,.slice H.a H.n H.c,.bool H.t,.slice H.b H.m H.d,.bool J.s,.slice J.a J.n J.c,.bool J.t,.slice J.b J.m J.d,.bool L.s,.slice L.a L.n L.c,.bool L.t,.slice L.b L.m L.d]) (.int .i64 2)).run prog w=.ok (.agg #[.bool L.s,.slice L.a L.n L.c,.bool L.t,.slice L.b L.m L.d]) w:=fun _=>by kernel_rfl
   go_upto_region 12 with fail
   change Code.wp _ _ _ _ (put12 w5 w.heap.size H J L);clear x0 x1 x2 x3 x4 x5 x6 x7 x8 x9 ag an f0 f1 f2 f3 f4 f5 f6 f7 f8 f9 cu cv;obtain⟨B6,C6,R6,L6⟩:=η4 (B5.o.s12 H J L) (((C5.o.oput4 (g':=w.heap.size) I 0 H).oput4 (g':=w.heap.size) I 4 J).oput4 (g':=w.heap.size) I 8 L) (R5.o.put12 B5.o H J L) (aX L5.o (Nat.le_refl w.heap.size) H J L);change Hid (Box (put12 w5 w.heap.size H J L) (w.heap.size+1) _ _)at C6;generalize put12 w5 w.heap.size H J L=U at *;have E6:=B6.o.old (.cells #[.bool false,.slice none 0 0] 53);obtain⟨⟨x0,x1,x2,x3⟩,-⟩:=E6.p0;obtain⟨⟨x4,x5,x6,x7⟩,-⟩:=E6.p1;obtain⟨⟨x8,x9,ag,an⟩,-⟩:=E6.p2;clear E6
   go_wp2_with fail
   clear x0 x1 x2 x3 x4 x5 x6 x7 x8 x9 ag an
   go_loopw [50] (fun iv wr=>∃i:Nat,i<=3/\iv=.int .i64 (i:Nat)/\∃gs ge gn gm,Hid (Box wr U.heap.size #[.bool gs,.slice ge gn gm] 53)/\Hid (aO wr (.agg #[.bool gs,.slice ge gn gm]) (gR aw i:Nat))/\Hid (Bl U wr)) (fun iv _=>3-(intOf iv).toNat)
   case atStart=>exact⟨0,by omega,rfl,false,none,0,0,Box.new _ _ _ _ rfl,jz _,β.alloc ρ _⟩
   case round =>
    obtain⟨i,hi,rfl,gs,ge,gn,gm,bl,cm,a5⟩:=hrel;obtain⟨w6,rfl⟩:=φ wr;by_cases h3:i=3
    ·subst h3
     have GP:0<gR aw 3:=qt fun e=>H0.o (by
      have d6:(D:Rat)≠0:=fun h=>by
       have:=cc.o;have h':D=0:=by exact_mod_cast h
       omega
      rw[<-bI.o]at e;have e1:=congrArg Q3.x e;have e2:=congrArg Q3.y e;have e3:=congrArg Q3.z e;have z:∀t:Rat,(D:Rat)*t=0->t=0:=fun t h=>(Rat.mul_eq_zero.mp h).resolve_left d6
      obtain⟨ax,ay,az⟩:=a;rw[show ax=0 from z _ e1,show ay=0 from z _ e2,show az=0 from z _ e3])
     have bt:=oU ao.o 3;obtain⟨G,hG⟩:=χ (gR aw 3);have ci:=cm;rw[hG]at GP bt ci;have cl:=O hG;have dy:Hid (Small ((G:Nat):Int)):=⟨4*k+1,by omega,bt⟩;have db:Hid (((G:Nat):Int)≠0):=by show((G:Nat):Int)≠0;omega
     have BP:Hid (Bd (4*k+1) (Rat.divInt 1 (G:Nat))):=eX (by show 1<B ^ (4*k+1);exact Nat.lt_of_lt_of_le (by unfold B;omega:1<B ^ 1) (Nat.pow_le_pow_right (by unfold B;omega) I)) bt I;clear hG GP bt;have KT:Hid (∀w',Bl w6 w'->Γ2 w' U.heap.size 0 (.bool gs) U.heap.size 1 (.slice ge gn gm)):=fun w' h=>by
      obtain⟨p0,p1,-,-⟩:=(bl.o.to h).two;exact⟨p0,p1⟩
     have T0:=O (Below.refl w6.heap.size w6);have cs:Hid (Bl w6 w6.drew):=T0.o.drew;have be:=KT.o _ T0.o;obtain⟨L7,B7,C7,R7⟩:=η4 (ae L6.o a5.o (ψ L6.o.size)) (B6.o.to a5.o) (C6.o.to a5.o) (R6.o.below a5.o)
     go_upto_region 18 with fail
     go_cut [15] (fun pv wy=>∃(gp:Nat) (rp:RC),pv=.pointer (some ⟨gp,0,none⟩)/\Hid (Box wy gp #[.bool rp.s,.slice rp.a rp.n rp.c,.bool rp.t,.slice rp.b rp.m rp.d] 55)/\Hid (ak wy rp.agg (Rat.divInt 1 (G:Nat)))/\Hid (Bl w6 wy)/\Hid (w6.heap.size<=gp))
     case first =>
      go_wp2_with fail
      go_region_held3 (fun w'=>w'.cell? ⟨U.heap.size,0,none⟩=some (.bool gs)/\w'.cell? ⟨U.heap.size,1,none⟩=some (.slice ge gn gm))
       (with_reducible first|exact(KT.o _ T2.o)|exact(KT.o _ (T2.o.alloc T2.o.size _))|exact(KT.o _ T1.o)|exact(KT.o _ (T1.o.alloc T1.o.size _))|exact(KT.o _ cs.o)|exact(KT.o _ (T0.o.alloc T0.o.size _).drew)|exact(KT.o _ (cf T2.o TL.o _ _ _ _ _ _ _ _))|exact(KT.o _ (cf (T2.o.alloc T2.o.size _) T2.o.size _ _ _ _ _ _ _ _)))
       (first
        | (have _g:=T1.o;clear _g;go_at_call 119;refine(Make_any _ _ 1 (G:Nat) _ (dz.o.below (by with_reducible first|exact β|exact(β.alloc ρ _))) (ci.o.below dZ) sr dy.o db.o).mono ?_;rintro e t2 ⟨⟨eu,rfl,bf⟩,E⟩
           obtain⟨T2,eD,ez⟩:=η3 (show Bl w6 t2 from ae dZ E ρ) (show Bl t1 t2 from ae dZ E ρ) bf;obtain⟨pt,rfl,eg⟩:=bf.rcv;have TV:=O eg
           first
            | (have TB:=O (show Box t2 _ _ _ from by with_reducible exact TB.o.to E))
            | (have TB:=O (show Box t2 _ #[.bool false,.slice none 0 0,.bool false,.slice none 0 0] 55 from by with_reducible exact(Box.new _ _ _ _ rfl).below E (Box.new _ _ _ _ rfl).lt)
               have TL:=O T1.o.size)
            | skip
           try have aa:=Nat.ne_of_lt TB.o.lt
           try have a8:=aa.symm
           try obtain⟨n0,n1,n2,n3,n4,n5,n6,n7⟩:=TB.o.four
           clear E)
        | (go_at_call 70;refine(jn 1 _ I I).mono ?_;rintro e t1 ⟨⟨et,rfl,b8⟩,F⟩
           obtain⟨T1,eB,dz⟩:=η3 (show Bl w6 t1 from ae dZ F ρ) (show Bl w6 t1 from ae dZ F ρ) b8
           first
            | (have TB:=O (show Box t1 _ #[.bool false,.slice none 0 0,.bool false,.slice none 0 0] 55 from by with_reducible exact(Box.new _ _ _ _ rfl).drew.below F (Box.new _ _ _ _ rfl).drew.lt)
               have TL:=O T0.o.size)
            | skip
           try have aa:=Nat.ne_of_lt TB.o.lt
           try have a8:=aa.symm
           try obtain⟨n0,n1,n2,n3,n4,n5,n6,n7⟩:=TB.o.four
           clear F))
      all_goals
       go_wp2_with fail
       go_meet
      all_goals first
       | (with_reducible exact⟨_,pt,rfl,O (Box.new _ _ _ _ rfl),O (TV.o.below (β.alloc ρ _)),O (T2.o.alloc T2.o.size _),O T2.o.size⟩)
       | (with_reducible exact⟨_,pt,rfl,O (TB.o.set4 _ _ _ _),O (TV.o.store4 TB.o _ _ _ _),O (cf T2.o TL.o _ _ _ _ _ _ _ _),O TL.o⟩)
     case rest =>
     obtain⟨gp,rp,rfl,ee,ef,bp,eT⟩:=hcut;clear be KT T0 cs;have L8:=O (ae L7.o bp.o (ψ L7.o.size));have dB:=B7.o.lt;have d4:=C7.o.lt;obtain⟨B8,C8,a6⟩:=η3 (B7.o.below bp.o dB) (C7.o.below bp.o d4) (dq _ rp.agg aw (Rat.divInt 1 (G:Nat)) (4*k+1) (4*k+1) wc (R7.o.below bp.o) ef.o BP.o ao.o I);obtain⟨⟨x0,x1,x2,x3⟩,-⟩:=B8.o.p0;obtain⟨⟨x4,x5,x6,x7⟩,-⟩:=B8.o.p1;obtain⟨⟨x8,x9,ag,an⟩,-⟩:=B8.o.p2;obtain⟨y0,y1,y2,y3,-⟩:=ee.o.four;unfold RC.agg at a6
     go_wp2_with fail
     refine a6.o.mono ?_;rintro e w9 ⟨⟨v9,rfl,c9⟩,b6⟩;obtain⟨t0,t1,t2,rfl,ht⟩:=c9.rcv;have T9:=O ht;have d5:=C8.o.lt;obtain⟨L9,C9⟩:=η2 (ae L8.o b6 (ψ L8.o.size)) (C8.o.below b6 d5);obtain⟨⟨x0,x1,x2,x3⟩,f0,f1,f2,f3⟩:=C9.o.p0;obtain⟨⟨x4,x5,x6,x7⟩,f4,f5,f6,f7⟩:=C9.o.p1;obtain⟨⟨x8,x9,ag,an⟩,f8,f9,cu,cv⟩:=C9.o.p2;clear c9 ht b6;go_wp2;refine bS results82 (w.heap.size+1) (C9.o.s12 t0 t1 t2) _ rfl underlying57 rfl aZ rfl
      ⟨⟨_,rfl,?_⟩,aX L9.o I _ _ _⟩
     have e:cE a=⟨Rat.divInt 1 (G:Nat)*aw.x,Rat.divInt 1 (G:Nat)*aw.y,Rat.divInt 1 (G:Nat)*aw.z⟩:=by
      unfold cE;rw[ap.o,bI.o,cl.o,<-bI.o]
     rw[e];exact T9.o.put12 C9.o _ _ _
    have b7:i<3:=I;have ed:(i:Int)<3:=I;have a4:=O b7;clear h3
    go_upto_region 15 with fail
    go_cut [14,50] (fun pv iv wx=>iv=.int .i64 (i:Nat)/\∃(bm:Nat) (rr:RC),pv=.pointer (some ⟨bm,0,none⟩)/\Hid (Box wx bm #[.bool rr.s,.slice rr.a rr.n rr.c,.bool rr.t,.slice rr.b rr.m rr.d] 55)/\Hid (ak wx rr.agg (aw.at i))/\Hid (Bl w6 wx)/\Hid (w6.heap.size<=bm))
    case first =>
     have bg:∀o,Bl U (w6.alloc o):=fun o=>ae a5.o ((Below.refl w6.heap.size w6).alloc ρ o) I
     have au:=O bg;obtain⟨t0,t1,t2,te,cB,cD,cF⟩:=R6.o;have HT:=O (cells3_inj te);have dm:=O (show ak U H.agg aw.x from by rw[HT.o.1];exact cB);have ds:=O (show ak U J.agg aw.y from by rw[HT.o.2.1];exact cD);have du:=O (show ak U L.agg aw.z from by rw[HT.o.2.2];exact cF);clear bg te cB cD cF;obtain rfl|rfl|rfl:i=0\/i=1\/i=2:=I
     ·go_wp2_with fail
      go_meet;exact⟨rfl,_,H,rfl,Box.new _ _ _ _ rfl,dm.o.below (au.o _),β.alloc ρ _,Nat.le_refl _⟩
     ·go_wp2_with fail
      go_meet;exact⟨rfl,_,J,rfl,Box.new _ _ _ _ rfl,ds.o.below (au.o _),β.alloc ρ _,Nat.le_refl _⟩
     ·go_wp2_with fail
      go_meet;exact⟨rfl,_,L,rfl,Box.new _ _ _ _ rfl,du.o.below (au.o _),β.alloc ρ _,Nat.le_refl _⟩
    case rest =>
    obtain⟨rfl,bm,rr,rfl,a7,b9,ar,da⟩:=hcut;obtain⟨GB,GI,HX⟩:=η3 (bl.o.to ar.o) (cm.o.below ar.o) b9.o;have SN:Hid (Small (aw.at i).num):=⟨4*k+1,by omega,(Bd.at ao.o i).1⟩;have SG:Hid (Small ((gR aw i:Nat):Int)):=⟨4*k+1,by omega,oU ao.o i⟩;have M0:=O (Below.refl wc.heap.size wc);have ba:Hid (Bl wc wc.drew):=M0.o.drew;obtain⟨z0,z1,z2,z3⟩:=GB.o.two;obtain⟨x0,x1,x2,x3,-⟩:=a7.o.four;unfold RC.agg at HX
    go_upto_region 16 with fail
    go_wp2_with fail
    go_region_with (first
     | (have _g:=M1.o;clear _g;go_at_call 112;refine(oZ _ _ (gR aw i:Nat) (aw.at i).num _ (GI.o.below M1.o) U1.o SG.o SN.o).mono ?_;rintro e y6 ⟨⟨u6,rfl,c6⟩,c3⟩
        have M2:Hid (Bl wc y6):=ae M1.o c3 ρ;have U2:=O c6;obtain⟨ts,te,tn,tm,td,rfl,-⟩:=c6;obtain⟨z0,z1,z2,z3⟩:=(GB.o.to M2.o).two;clear c3)
     | (go_at_call 120;refine(Num_any _ (aw.at i) _ (HX.o.below ba.o)).mono ?_;rintro e y5 ⟨⟨u5,rfl,em⟩,a3⟩
        have M1:Hid (Bl wc y5):=ae ba.o a3 ρ;have U1:=O em;obtain⟨z0,z1,z2,z3⟩:=(GB.o.to M1.o).two;clear a3))
    all_goals
     have cd:=O (GB.o.to M2.o);have bc:Bl U y6:=ae (ae a5.o ar.o I) M2.o I;have bV:=O bc;clear bc;go_wp2;go_round
     case rel=>exact⟨i+1,by have:=a4.o;omega,rfl,ts,te,tn,tm,cd.o.set2 _ _,U2.o.store2 cd.o _ _,aM bV.o ρ _ _⟩
     case measure=>exact μ (ψ a4.o)
  have b7:i<3:=I;have ed:(i:Int)<3:=I;have a4:=O b7;clear h3
  go_upto_region 6 with fail
  go_cut [6,22] (fun pv iv wx=>iv=.int .i64 (i:Nat)/\∃(gx:Nat) (r:RC),pv=.pointer (some ⟨gx,0,none⟩)/\Hid (Box wx gx #[.bool r.s,.slice r.a r.n r.c,.bool r.t,.slice r.b r.m r.d] 55)/\Hid (ak wx r.agg (a.at i))/\Hid (Bl w3 wx)/\Hid (w3.heap.size<=gx))
  case first =>
   have hb:=O (ae (ae L2.o HR.o (ψ G2.o)) ((Below.refl w3.heap.size w3).alloc ρ (.cells #[] 0)) (ψ L2.o.size));have bg:∀o,Bl w (w3.alloc o):=fun o=>ae (ae L2.o HR.o (ψ G2.o)) ((Below.refl w3.heap.size w3).alloc ρ o) (ψ L2.o.size)
   have au:=O bg;clear bg hb;obtain rfl|rfl|rfl:i=0\/i=1\/i=2:=I
   ·go_wp2_with fail
    go_meet;exact⟨rfl,_,Q,rfl,Box.new _ _ _ _ rfl,dd.o.below (au.o _),β.alloc ρ _,Nat.le_refl _⟩
   ·go_wp2_with fail
    go_meet;exact⟨rfl,_,R,rfl,Box.new _ _ _ _ rfl,de.o.below (au.o _),β.alloc ρ _,Nat.le_refl _⟩
   ·go_wp2_with fail
    go_meet;exact⟨rfl,_,X,rfl,Box.new _ _ _ _ rfl,dk.o.below (au.o _),β.alloc ρ _,Nat.le_refl _⟩
  case rest =>
  obtain⟨rfl,gx,r,rfl,a7,b9,ar,da⟩:=hcut;obtain⟨b3,b4⟩:=fY HK.o i I;obtain⟨D,hD⟩:=χ (bT a i);rw[hD]at b3 b4;obtain⟨ap,BX⟩:=η2 hD (Bd.at HK.o i);obtain⟨x,hx⟩:=χ (a.at i);rw[hx]at BX;have cn:=O hx;obtain⟨d,hd⟩:∃d:Nat,x.den=d:=⟨_,rfl⟩;have b0:=O hd;have d7:0<d:=by rw[<-hd];exact x.den_pos
  have eb:i*k<=3*10000:=Nat.mul_le_mul I ec;have SD:Hid (Small D):=⟨i*k+1,by omega,b4⟩;have cr:Hid (Small (d:Int)):=⟨k,by omega,by rw[<-hd];exact BX.o.2⟩;have d9:0<Int.gcd D d:=Int.gcd_pos_of_ne_zero_left _ I;have c4:Int.gcd D d<=D.natAbs:=Nat.le_of_dvd I (Int.gcd_dvd_natAbs_left ..);have SG:Hid (Small ((Int.gcd D d:Nat):Int)):=⟨i*k+1,by omega,by show Int.gcd D d<_;omega⟩;have GP:Hid (0<((Int.gcd D d:Nat):Int)):=by show(0:Int)<_;omega
  have GD:Hid (((Int.gcd D d:Nat):Int)∣D):=Int.gcd_dvd_left ..;have HD:=O (show aO wc (.agg #[.bool s3,.slice e3 n3 m3]) D from by rw[<-hD];exact ch.o.below ar.o);have HX:=O (show ak wc r.agg x from by rw[<-hx];exact b9.o);have DB:=O (bk.o.to ar.o);clear hD hx b3 b4 hd eb d9 c4 d7;have KP:Hid (∀w',Bl wc w'->Γ6 w' w2.heap.size 0 (.bool s3) w2.heap.size 1 (.slice e3 n3 m3) gx 0 (.bool r.s) gx 1 (.slice r.a r.n r.c) gx 2 (.bool r.t) gx 3 (.slice r.b r.m r.d)):=fun w' h=>by
   obtain⟨p0,p1,-,-⟩:=(DB.o.to h).two;obtain⟨q0,q1,q2,q3,-⟩:=(a7.o.to h).four;exact⟨p0,p1,q0,q1,q2,q3⟩
  have M0:=O (Below.refl wc.heap.size wc);have ba:Hid (Bl wc wc.drew):=M0.o.drew;have be:=KP.o _ M0.o;unfold RC.agg at HX
  go_upto_region 7 with fail
  go_cut [6,7,22] (fun xv pv iv wy=>iv=.int .i64 (i:Nat)/\xv=.pointer (some ⟨gx,0,none⟩)/\∃gq s e n m,pv=.pointer (some ⟨gq,0,none⟩)/\Hid (Box wy gq #[.bool s,.slice e n m] 53)/\Hid (aO wy (.agg #[.bool s,.slice e n m]) (D / (Int.gcd D d:Nat)))/\Hid (Bl wc wy)/\Hid (wc.heap.size<=gq))
  case first =>
   go_wp2_with fail
   go_region_held3 (fun w'=>w'.cell? ⟨w2.heap.size,0,none⟩=some (.bool s3)/\w'.cell? ⟨w2.heap.size,1,none⟩=some (.slice e3 n3 m3)/\w'.cell? ⟨gx,0,none⟩=some (.bool r.s)/\w'.cell? ⟨gx,1,none⟩=some (.slice r.a r.n r.c)/\w'.cell? ⟨gx,2,none⟩=some (.bool r.t)/\w'.cell? ⟨gx,3,none⟩=some (.slice r.b r.m r.d))
    (with_reducible exact(KP.o _ dZ))
    (first
     | (have _g:=M2.o;clear _g;go_at_call 113;refine(oC _ _ D (Int.gcd D d:Nat) _ (HD.o.below (by with_reducible first|exact M2.o|exact(M2.o.alloc M2.o.size _)|exact((M2.o.alloc M2.o.size _).alloc (M2.o.alloc M2.o.size _).size _))) (V2.o.below (by with_reducible first|exact β|exact(β.alloc ρ _)|exact((β.alloc ρ _).alloc (β.alloc ρ _).size _))) SD.o SG.o GP.o GD.o).mono ?_;rintro e af ⟨⟨v3,q1,q2,q3,q4,rfl,c7⟩,ad⟩
        obtain⟨M3,X3,V3⟩:=η3 (show Bl wc af from ae dZ ad ρ) (show Bl v2 af from ae dZ ad ρ) c7;obtain⟨qs,qe,qn,qm,qd,rfl,-⟩:=c7
        first
         | (have u:=O (show Box af _ _ _ from by with_reducible exact u.o.to ad)
            have Y:=O (show Box af _ _ _ from by with_reducible exact Y.o.to ad))
         | (have ca:=Nat.ne_of_lt u.o.lt
            have er:=ca.symm;have Y:=O (show Box af _ #[.bool false,.slice none 0 0] 53 from by with_reducible exact(Box.new _ _ _ _ rfl).below ad (Box.new _ _ _ _ rfl).lt);have u:=O (show Box af _ _ _ from by with_reducible exact(u.o.old _).below ad (u.o.old _).lt);have av:=O M2.o.size)
         | (have u:=O (show Box af _ _ _ from by with_reducible exact u.o.to ad))
         | (have Y:=O (show Box af (v2.heap.size+1) #[.bool false,.slice none 0 0] 53 from by with_reducible exact(Box.new _ _ _ (v2.heap.size+1) (by simp)).below ad (Box.new _ _ _ (v2.heap.size+1) (by simp)).lt)
            have u:=O (show Box af _ #[.bool false,.slice none 0 0] 53 from by with_reducible exact((Box.new _ _ _ _ rfl).old _).below ad ((Box.new _ _ _ _ rfl).old _).lt);have ac:=O M2.o.size;have av:=O (show wc.heap.size<=v2.heap.size+1 from by have:=M2.o.size;omega))
         | (have u:=O (show Box af _ #[.bool false,.slice none 0 0] 53 from by with_reducible exact(Box.new _ _ _ _ rfl).below ad (Box.new _ _ _ _ rfl).lt)
            have ac:=O M2.o.size)
         | skip
        try have aa:=Nat.ne_of_lt u.o.lt
        try have a8:=aa.symm
        try obtain⟨n0,n1,n2,n3⟩:=u.o.two
        try have bF:=fun o=>(u.o.old o).two
        try obtain⟨m0,m1,m2,m3⟩:=Y.o.two
        clear ad)
     | (have _g:=M1.o;clear _g;go_at_call 112;refine(oZ _ _ D d _ (HD.o.below (by with_reducible first|exact M1.o|exact(M1.o.alloc M1.o.size _)|exact((M1.o.alloc M1.o.size _).alloc (M1.o.alloc M1.o.size _).size _))) (V1.o.below (by with_reducible first|exact β|exact(β.alloc ρ _)|exact((β.alloc ρ _).alloc (β.alloc ρ _).size _))) SD.o cr.o).mono ?_;rintro e v2 ⟨⟨e5,rfl,bv⟩,E⟩
        obtain⟨M2,X2,V2⟩:=η3 (show Bl wc v2 from ae dZ E ρ) (show Bl v1 v2 from ae dZ E ρ) bv
        first
         | (have u:=O (show Box v2 _ _ _ from by with_reducible exact u.o.to E)
            have Y:=O (show Box v2 _ _ _ from by with_reducible exact Y.o.to E))
         | (have ca:=Nat.ne_of_lt u.o.lt
            have er:=ca.symm;have Y:=O (show Box v2 _ #[.bool false,.slice none 0 0] 53 from by with_reducible exact(Box.new _ _ _ _ rfl).below E (Box.new _ _ _ _ rfl).lt);have u:=O (show Box v2 _ _ _ from by with_reducible exact(u.o.old _).below E (u.o.old _).lt);have av:=O M1.o.size)
         | (have u:=O (show Box v2 _ _ _ from by with_reducible exact u.o.to E))
         | (have Y:=O (show Box v2 (v1.heap.size+1) #[.bool false,.slice none 0 0] 53 from by with_reducible exact(Box.new _ _ _ (v1.heap.size+1) (by simp)).below E (Box.new _ _ _ (v1.heap.size+1) (by simp)).lt)
            have u:=O (show Box v2 _ #[.bool false,.slice none 0 0] 53 from by with_reducible exact((Box.new _ _ _ _ rfl).old _).below E ((Box.new _ _ _ _ rfl).old _).lt);have ac:=O M1.o.size;have av:=O (show wc.heap.size<=v1.heap.size+1 from by have:=M1.o.size;omega))
         | (have u:=O (show Box v2 _ #[.bool false,.slice none 0 0] 53 from by with_reducible exact(Box.new _ _ _ _ rfl).below E (Box.new _ _ _ _ rfl).lt)
            have ac:=O M1.o.size)
         | skip
        try have aa:=Nat.ne_of_lt u.o.lt
        try have a8:=aa.symm
        try obtain⟨n0,n1,n2,n3⟩:=u.o.two
        try have bF:=fun o=>(u.o.old o).two
        try obtain⟨m0,m1,m2,m3⟩:=Y.o.two
        clear E)
     | (go_at_call 69;refine(eV r.agg _ k _ (HX.o.below (by with_reducible first|exact ba.o|exact(M0.o.alloc M0.o.size _).drew|exact((M0.o.alloc M0.o.size _).alloc (M0.o.alloc M0.o.size _).size _).drew)) BX.o I).mono ?_;rw[b0.o];rintro e v1 ⟨⟨e4,rfl,en⟩,F⟩
        obtain⟨M1,X1,V1⟩:=η3 (show Bl wc v1 from ae dZ F ρ) (show Bl wc v1 from ae dZ F ρ) en
        first
         | (have Y:=O (show Box v1 (wc.heap.size+1) #[.bool false,.slice none 0 0] 53 from by with_reducible exact(Box.new _ _ _ (wc.heap.size+1) (by simp)).drew.below F (Box.new _ _ _ (wc.heap.size+1) (by simp)).drew.lt)
            have u:=O (show Box v1 _ #[.bool false,.slice none 0 0] 53 from by with_reducible exact((Box.new _ _ _ _ rfl).old _).drew.below F ((Box.new _ _ _ _ rfl).old _).drew.lt);have ac:=O M0.o.size;have av:=O (show wc.heap.size<=wc.heap.size+1 from by have:=M0.o.size;omega))
         | (have u:=O (show Box v1 _ #[.bool false,.slice none 0 0] 53 from by with_reducible exact(Box.new _ _ _ _ rfl).drew.below F (Box.new _ _ _ _ rfl).drew.lt)
            have ac:=O M0.o.size)
         | skip
        try have aa:=Nat.ne_of_lt u.o.lt
        try have a8:=aa.symm
        try obtain⟨n0,n1,n2,n3⟩:=u.o.two
        try have bF:=fun o=>(u.o.old o).two
        try obtain⟨m0,m1,m2,m3⟩:=Y.o.two
        clear F))
   all_goals
    go_wp2_with fail
    go_meet
   all_goals first
    | (with_reducible exact⟨rfl,rfl,_,_,_,_,_,rfl,O ((Box.new _ _ _ _ rfl).old _),O (V3.o.below ((β.alloc ρ _).alloc (β.alloc ρ _).size _)),O ((M3.o.alloc M3.o.size _).alloc (M3.o.alloc M3.o.size _).size _),O M3.o.size⟩)
    | (with_reducible exact⟨rfl,rfl,_,_,_,_,_,rfl,O (Box.new _ _ _ _ (by simp)),O (V3.o.below ((β.alloc ρ _).alloc (β.alloc ρ _).size _)),O ((M3.o.alloc M3.o.size _).alloc (M3.o.alloc M3.o.size _).size _),O (Nat.le_succ_of_le M3.o.size)⟩)
    | (with_reducible exact⟨rfl,rfl,_,_,_,_,_,rfl,O (((u.o.old _).set2 _ _).other2 (by first|assumption|(apply Ne.symm;assumption)|omega) _ _),O (((V3.o.below (β.alloc ρ _)).store2 (u.o.old _) _ _).store2 ((Box.new _ _ _ _ rfl).other2 (by first|assumption|(apply Ne.symm;assumption)|omega) _ _) _ _),O (aM (aM (M3.o.alloc M3.o.size _) ac.o _ _) M3.o.size _ _),O ac.o⟩)
    | (with_reducible exact⟨rfl,rfl,_,_,_,_,_,rfl,O ((u.o.set2 _ _).other2 (by first|assumption|(apply Ne.symm;assumption)|omega) _ _),O ((V3.o.store2 u.o _ _).store2 (Y.o.other2 (by first|assumption|(apply Ne.symm;assumption)|omega) _ _) _ _),O (aM (aM M3.o ac.o _ _) av.o _ _),O ac.o⟩)
    | (with_reducible exact⟨rfl,rfl,_,_,_,_,_,rfl,O ((Y.o.set2 _ _).other2 (by first|assumption|(apply Ne.symm;assumption)|omega) _ _),O ((V3.o.store2 Y.o _ _).store2 (u.o.other2 (by first|assumption|(apply Ne.symm;assumption)|omega) _ _) _ _),O (aM (aM M3.o av.o _ _) ac.o _ _),O av.o⟩)
    | (with_reducible exact⟨rfl,rfl,_,_,_,_,_,rfl,O ((Box.new _ _ _ _ rfl).other2 (by first|assumption|(apply Ne.symm;assumption)|omega) _ _),O ((V3.o.below (β.alloc ρ _)).store2 (u.o.old _) _ _),O (aM (M3.o.alloc M3.o.size _) ac.o _ _),O M3.o.size⟩)
  case rest =>
  clear be KP M0 ba;obtain⟨rfl,rfl,gq,qs,qe,qn,qm,rfl,bu,ei,br,ej⟩:=hcut;obtain⟨XB,bi,dv⟩:=η3 (a7.o.to br.o) (DB.o.to br.o) (HX.o.below br.o);have G3:Hid (w2.heap.size<w3.heap.size):=bk.o.lt;have nq:gq≠w2.heap.size:=by have:=ej.o;have:=ar.o.size;have:=G3.o;omega
  have nx:gx≠w2.heap.size:=by have:=da.o;have:=G3.o;omega
  obtain⟨NQ,NX⟩:=η2 nq nx;clear nq nx;have KQ:Hid (∀w',Bl wc w'->Γ6 w' gq 0 (.bool qs) gq 1 (.slice qe qn qm) gx 0 (.bool r.s) gx 1 (.slice r.a r.n r.c) gx 2 (.bool r.t) gx 3 (.slice r.b r.m r.d)):=fun w' h=>by
   obtain⟨p0,p1,-,-⟩:=(bu.o.to h).two;obtain⟨q0,q1,q2,q3,-⟩:=(XB.o.to h).four;exact⟨p0,p1,q0,q1,q2,q3⟩
  have N0:Hid (Bl wc wc.drew):=β.drew;have d8:=KQ.o _ β;have SQ:Hid (Small (D / (Int.gcd D d:Nat))):=by
   obtain⟨t,ht,hs⟩:=SD.o;have hg:=GP.o;refine⟨t,ht,Nat.lt_of_le_of_lt ?_ hs⟩;have b3:0<D:=by rw[<-ap.o];exact(fY HK.o i (ψ a4.o)).1
   have h1:=Int.ediv_le_self ((Int.gcd D d:Nat):Int) (a:=D) I;have h2:=Int.ediv_nonneg (a:=D) (b:=((Int.gcd D d:Nat):Int)) I I;omega
  go_upto_region 8 with fail
  go_wp2_with fail
  go_region_held3 (fun w'=>w'.cell? ⟨gq,0,none⟩=some (.bool qs)/\w'.cell? ⟨gq,1,none⟩=some (.slice qe qn qm)/\w'.cell? ⟨gx,0,none⟩=some (.bool r.s)/\w'.cell? ⟨gx,1,none⟩=some (.slice r.a r.n r.c)/\w'.cell? ⟨gx,2,none⟩=some (.bool r.t)/\w'.cell? ⟨gx,3,none⟩=some (.slice r.b r.m r.d))
   (with_reducible first|exact(KS.o)|exact(KQ.o _ N2.o)|exact(KQ.o _ N1.o)|exact(KQ.o _ N0.o))
   (first
    | (have _g:=N1.o;clear _g;go_at_call 68;refine(fG _ _ (D / (Int.gcd D d:Nat)) d _ (ei.o.below N1.o) U1.o SQ.o cr.o).mono ?_;rintro e y2 ⟨⟨u2,rfl,c5⟩,E⟩
       have N2:Hid (Bl wc y2):=ae N1.o E ρ;have U2:=O c5;obtain⟨ts,te,tn,tm,td,rfl,-⟩:=c5;have KS:Hid (((y2.setCell ⟨w2.heap.size,0,none⟩ (.bool ts)).setCell ⟨w2.heap.size,1,none⟩ (.slice te tn tm)).cell? ⟨gq,0,none⟩=some (.bool qs)/\((y2.setCell ⟨w2.heap.size,0,none⟩ (.bool ts)).setCell ⟨w2.heap.size,1,none⟩ (.slice te tn tm)).cell? ⟨gq,1,none⟩=some (.slice qe qn qm)/\((y2.setCell ⟨w2.heap.size,0,none⟩ (.bool ts)).setCell ⟨w2.heap.size,1,none⟩ (.slice te tn tm)).cell? ⟨gx,0,none⟩=some (.bool r.s)/\((y2.setCell ⟨w2.heap.size,0,none⟩ (.bool ts)).setCell ⟨w2.heap.size,1,none⟩ (.slice te tn tm)).cell? ⟨gx,1,none⟩=some (.slice r.a r.n r.c)/\((y2.setCell ⟨w2.heap.size,0,none⟩ (.bool ts)).setCell ⟨w2.heap.size,1,none⟩ (.slice te tn tm)).cell? ⟨gx,2,none⟩=some (.bool r.t)/\((y2.setCell ⟨w2.heap.size,0,none⟩ (.bool ts)).setCell ⟨w2.heap.size,1,none⟩ (.slice te tn tm)).cell? ⟨gx,3,none⟩=some (.slice r.b r.m r.d)):=by
        obtain⟨p0,p1,-,-⟩:=((bu.o.to N2.o).other2 (g':=w2.heap.size) (i:=0) (j:=1) NQ.o (.bool ts) (.slice te tn tm)).two;obtain⟨q0,q1,q2,q3,-⟩:=((XB.o.to N2.o).other2 (g':=w2.heap.size) (i:=0) (j:=1) NX.o (.bool ts) (.slice te tn tm)).four;exact⟨p0,p1,q0,q1,q2,q3⟩
       obtain⟨z0,z1,z2,z3⟩:=(bi.o.to N2.o).two;clear E)
    | (go_at_call 69;refine(eV _ _ k _ (dv.o.below N0.o) BX.o I).mono ?_;rw[b0.o];rintro e y1 ⟨⟨u1,rfl,el⟩,F⟩
       have N1:Hid (Bl wc y1):=ae N0.o F ρ;have U1:=O el;clear F))
  clear d8;have a9:=O (bi.o.to N2.o);have bc:Bl w2 y2:=ae (ae (ae HR.o ar.o I) br.o I) N2.o I;have bV:=O bc;clear bc;go_wp2;go_round
  case rel=>exact⟨i+1,by have:=a4.o;omega,rfl,ts,te,tn,tm,a9.o.set2 _ _,by
   show aO _ _ (rA (bT a i) (a.at i).den);rw[ap.o,cn.o,b0.o];exact U2.o.store2 a9.o _ _,aM bV.o ρ _ _⟩
  case measure=>exact μ (ψ a4.o)
def cP(d M:Nat)(q:Rat):Prop:=∃z:Int,q*(d:Rat)=(z:Rat)/\z.natAbs<=M
theorem cP.mono{d M e:Nat}{q:Rat}(h:cP d M q)(u:M<=e):cP d e q:=by
 obtain⟨z,i,j⟩:=h;exact⟨z,i,Nat.le_trans j u⟩
theorem cP.zero(d:Nat):cP d 0 0:=⟨0,by simp,by simp⟩
theorem cP.add{d M e:Nat}{q r:Rat}(h:cP d M q)(i:cP d e r):cP d (M+e) (q+r):=by
 obtain⟨z,j,A⟩:=h;obtain⟨y,u,C⟩:=i;exact⟨z+y,by rw[Rat.add_mul,j,u,Rat.intCast_add],by omega⟩
theorem cP.neg{d M:Nat}{q:Rat}(h:cP d M q):cP d M (-q):=by
 obtain⟨z,e,i⟩:=h;exact⟨-z,by rw[Rat.neg_mul,e,Rat.intCast_neg],by omega⟩
theorem cP.sub{d M e:Nat}{q r:Rat}(h:cP d M q)(i:cP d e r):cP d (M+e) (q-r):=by
 rw[Rat.sub_eq_add_neg];exact h.add i.neg
theorem cP.mul{d i M e:Nat}{q r:Rat}(h:cP d M q)(j:cP i e r):cP (d*i) (M*e) (q*r):=by
 obtain⟨z,u,A⟩:=h;obtain⟨y,C,E⟩:=j;refine⟨z*y,?_,?_⟩
 ·rw[Rat.natCast_mul,Rat.intCast_mul,<-u,<-C]
  grind
 ·rw[Int.natAbs_mul];exact Nat.mul_le_mul A E
theorem cP.int(z:Int)(M:Nat)(h:z.natAbs<=M):cP 1 M (z:Rat):=⟨z,by simp,h⟩
theorem cP.bd{d M k:Nat}{q:Rat}(h:cP d M q)(C:0<d)(j:M<B ^ k)(u:d<B ^ k):Bd k q:=by
 obtain⟨z,i,A⟩:=h;have h0:(d:Rat)≠0:=fun e=>by
  have:d=0:=by exact_mod_cast e
  omega
 have e:q=Rat.divInt z (d:Int):=by
  rw[Rat.divInt_eq_div,<-i,Rat.div_def,Rat.mul_assoc,show((d:Int):Rat)=(d:Rat)from rfl,Rat.mul_inv_cancel _ h0,Rat.mul_one]
 rw[e];exact eX I I I
def qsub(a b:Q3):Q3:=⟨a.x-b.x,a.y-b.y,a.z-b.z⟩
def qadd(a b:Q3):Q3:=⟨a.x+b.x,a.y+b.y,a.z+b.z⟩
def qscale(k:Rat)(a:Q3):Q3:=⟨k*a.x,k*a.y,k*a.z⟩
theorem BdV.qsub{k l:Nat}{a b:Q3}(h:BdV k a)(e:BdV l b):BdV (k+l+1) (qsub a b):=⟨h.1.sub e.1,h.2.1.sub e.2.1,h.2.2.sub e.2.2⟩
theorem BdV.qadd{k l:Nat}{a b:Q3}(h:BdV k a)(e:BdV l b):BdV (k+l+1) (qadd a b):=⟨h.1.add e.1,h.2.1.add e.2.1,h.2.2.add e.2.2⟩
theorem BdV.qscale{k l:Nat}{q:Rat}{a:Q3}(h:Bd k q)(e:BdV l a):BdV (k+l) (qscale q a):=⟨h.mul e.1,h.mul e.2.1,h.mul e.2.2⟩
theorem BdV.mono{k l:Nat}{a:Q3}(h:BdV k a)(e:k<=l):BdV l a:=⟨h.1.mono e,h.2.1.mono e,h.2.2.mono e⟩
def bA(d M:Nat)(q:Q3):Prop:=cP d M q.x/\cP d M q.y/\cP d M q.z
theorem bA.mono{d M i:Nat}{q:Q3}(h:bA d M q)(e:M<=i):bA d i q:=⟨h.1.mono e,h.2.1.mono e,h.2.2.mono e⟩
theorem bA.qadd{d M i:Nat}{q r:Q3}(h:bA d M q)(e:bA d i r):bA d (M+i) (qadd q r):=⟨h.1.add e.1,h.2.1.add e.2.1,h.2.2.add e.2.2⟩
theorem bA.qsub{d M i:Nat}{q r:Q3}(h:bA d M q)(e:bA d i r):bA d (M+i) (qsub q r):=⟨h.1.sub e.1,h.2.1.sub e.2.1,h.2.2.sub e.2.2⟩
theorem bA.qscale{d j M i:Nat}{k:Rat}{q:Q3}(h:cP d M k)(e:bA j i q):bA (d*j) (M*i) (qscale k q):=⟨h.mul e.1,h.mul e.2.1,h.mul e.2.2⟩
theorem bA.cross{d j M i:Nat}{q r:Q3}(h:bA d M q)(e:bA j i r):bA (d*j) (2*(M*i)) (eL q r):=by
 rw[Nat.two_mul];exact⟨(h.2.1.mul e.2.2).sub (h.2.2.mul e.2.1),(h.2.2.mul e.1).sub (h.1.mul e.2.2),(h.1.mul e.2.1).sub (h.2.1.mul e.1)⟩
theorem bA.dot{d j M e:Nat}{q r:Q3}(h:bA d M q)(i:bA j e r):cP (d*j) (3*(M*e)) (aT q r):=by
 have:=((h.1.mul i.1).add (h.2.1.mul i.2.1)).add (h.2.2.mul i.2.2);rw[show M*e+M*e+M*e=3*(M*e) by omega]at this;exact this
theorem bA.bd{d M k:Nat}{q:Q3}(h:bA d M q)(j:0<d)(e:M<B ^ k)(i:d<B ^ k):BdV k q:=⟨h.1.bd j e i,h.2.1.bd j e i,h.2.2.bd j e i⟩
def io(t a b c:Q3):Rat:=aT (qsub a t) (eL (qsub b t) (qsub c t))
def jt(t a b c:Q3):Q3:=qadd (qadd a b) (qadd c t)
theorem pieceD_frac{d M:Nat}{t a b c:Q3}(e:bA d M t)(ha:bA d M a)(hb:bA d M b)(hc:bA d M c):cP (d*(d*d)) (3*((M+M)*(2*((M+M)*(M+M))))) (io t a b c):=
 (ha.qsub e).dot ((hb.qsub e).cross (hc.qsub e))
theorem pieceC_frac{d M:Nat}{t a b c:Q3}(e:bA d M t)(ha:bA d M a)(hb:bA d M b)(hc:bA d M c):bA d (M+M+(M+M)) (jt t a b c):=
 (ha.qadd hb).qadd (hc.qadd e)
def iF(q:Nat->Q3)(r:List Nat)(k:Nat):Rat×Q3:=(io (q 0) (q (r.getD 0 0)) (q (r.getD (k+1) 0)) (q (r.getD (k+2) 0)),jt (q 0) (q (r.getD 0 0)) (q (r.getD (k+1) 0)) (q (r.getD (k+2) 0)))
def oH(q:Nat->Q3)(r:List Nat)(n:Nat):List (Rat×Q3):=(List.range n).map (iF q r)
def aD(q:Nat->Q3)(rs:List (List Nat)):List (Rat×Q3):=rs.flatMap fun r=>oH q r (r.length-2)
theorem fanQ_succ(q:Nat->Q3)(r:List Nat)(n:Nat):oH q r (n+1)=oH q r n++[iF q r n]:=by
 unfold oH;rw[List.range_succ,List.map_append];rfl
theorem qz(q:Nat->Q3)(r:List Nat)(n:Nat):(oH q r n).length=n:=by unfold oH;simp
theorem tx(q:Nat->Q3)(rs:List (List Nat))(r:List Nat):aD q (rs++[r])=aD q rs++oH q r (r.length-2):=by
 unfold aD;rw[List.flatMap_append];simp
theorem piecesQ_len(q:Nat->Q3)(rs:List (List Nat))(h:∀r∈rs,r.length<=64):(aD q rs).length<=rs.length*62:=by
 induction rs with
 | nil=>exact Nat.zero_le _
 | cons r rs ih =>
  have i:=ih fun r e=>h r (by simp[e])
  have j:=h r (by simp);unfold aD at *;rw[List.flatMap_cons,List.length_append,qz,List.length_cons,Nat.add_mul];omega
theorem piecesQ_lt{q:Nat->Q3}{rs:List (List Nat)}{i j:Nat}{r:List Nat}(h:rs[i]?=some r)(A:j<r.length-2):(aD q (rs.take i)).length+j<(aD q rs).length:=by
 have hi:=(List.getElem?_eq_some_iff.1 h).1;have e:rs=rs.take i++r::rs.drop (i+1):=by
  conv=>lhs;rw[<-List.take_append_drop i rs]
  rw[List.drop_eq_getElem_cons hi];rw[List.getElem?_eq_getElem hi]at h;rw[Option.some.inj h]
 have u:(aD q rs).length=(aD q (rs.take i)).length+((r.length-2)+(aD q (rs.drop (i+1))).length):=by
  conv=>lhs;rw[e]
  unfold aD;rw[List.flatMap_append,List.flatMap_cons,List.length_append,List.length_append,qz]
 omega
theorem piecesQ_mem{q:Nat->Q3}{rs:List (List Nat)}{i j:Nat}{r:List Nat}(h:rs[i]?=some r)(e:j<r.length-2):iF q r j∈aD q rs:=
 List.mem_flatMap.mpr ⟨r,List.mem_of_getElem? h,List.mem_map.mpr ⟨j,List.mem_range.mpr e,rfl⟩⟩
def cK(l:List (Rat×Q3)):Rat:=l.foldl (fun s x=>s+x.1) 0
def dC(l:List (Rat×Q3)):Q3:=l.foldl (fun s x=>qadd s (qscale x.1 x.2)) ⟨0,0,0⟩
theorem eC(l:List (Rat×Q3))(x:Rat×Q3):cK (l++[x])=cK l+x.1:=by simp[cK]
theorem fL(l:List (Rat×Q3))(x:Rat×Q3):dC (l++[x])=qadd (dC l) (qscale x.1 x.2):=by simp[dC]
theorem iX{e:Type}{p:List e->Prop}(h0:p [])(i:∀l x,p l->p (l++[x])):∀l,p l:=by
 intro l;have:∀m:List e,p m.reverse:=fun m=>by
  induction m with
  | nil=>exact h0
  | cons x m ih=>rw[List.reverse_cons];exact i _ x ih
 have h:=this l.reverse
 rwa [List.reverse_reverse]at h
theorem sumD_frac{d M:Nat}:∀l:List (Rat×Q3),(∀x∈l,cP d M x.1)->cP d (l.length*M) (cK l):=by
 refine iX ?_ ?_
 ·intro _;exact(cP.zero d).mono (by simp)
 ·intro l x i h
  rw[eC,List.length_append,List.length_singleton,Nat.add_mul,Nat.one_mul];exact(i fun y e=>h y (List.mem_append_left _ e)).add (h x (by simp))
theorem sumC_frac{d M e L:Nat}:∀l:List (Rat×Q3),(∀x∈l,cP d M x.1/\bA e L x.2)->bA (d*e) (l.length*(M*L)) (dC l):=by
 refine iX ?_ ?_
 ·intro _
  have z:cP (d*e) (([]:List (Rat×Q3)).length*(M*L)) 0:=(cP.zero _).mono (by simp);exact⟨z,z,z⟩
 ·intro l x u h
  rw[fL,List.length_append,List.length_singleton,Nat.add_mul,Nat.one_mul];have i:=h x (by simp);exact(u fun y j=>h y (List.mem_append_left _ j)).qadd (bA.qscale i.1 i.2)
theorem pieces_frac{q:Nat->Q3}{d M:Nat}(e:∀i,bA d M (q i))(rs:List (List Nat)):∀x∈aD q rs,cP (d*(d*d)) (3*((M+M)*(2*((M+M)*(M+M))))) x.1/\bA d (M+M+(M+M)) x.2:=by
 intro x A;obtain⟨r,_,u⟩:=List.mem_flatMap.mp A;obtain⟨j,_,rfl⟩:=List.mem_map.mp u;exact⟨pieceD_frac (e _) (e _) (e _) (e _),pieceC_frac (e _) (e _) (e _) (e _)⟩
end Go.Proofs.Υ
