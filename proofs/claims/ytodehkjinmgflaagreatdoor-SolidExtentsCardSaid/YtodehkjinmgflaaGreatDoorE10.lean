/- Lemmas. -/
import Derived.Test.YtodehkjinmgflaaGreatDoorE9
set_option linter.all false
set_option maxHeartbeats 0
set_option maxRecDepth 99999
namespace Go.Proofs.Υ
open Go Go.RowKit Tryz
def GcdI(w wr:World)(G k:Nat)(xv yv:Value):Prop:=
 ∃a n c d b m e f,xv=.slice a n c/\yv=.slice b m e/\Mag wr a n c d/\Mag wr b m e f/\Nz d/\Nz f/\n<=1000000/\m<=1000000/\val f=k/\Nat.gcd (val d) (val f)=G/\Bl w wr
theorem pD(va vb:Value)(x y:Int)(w:World)(ha:aU w va x)(hb:aU w vb y)(sx:Small x)(sy:Small y):
 Calls prog 112 #[va,vb] w fun e w'=>cT w' e (Int.gcd x y:Nat)/\Bl w w':=by
 obtain⟨s1,a1,n1,c1,xs,rfl,an,R,af,X,ab⟩:=ha.open sx;obtain⟨s2,a2,n2,c2,ys,rfl,ao,U,ag,Y,ac⟩:=hb.open sy;have hG:Nat.gcd (val xs) (val ys)=Int.gcd x y:=by rw[X,Y];rfl
 obtain⟨HG,M1,M2⟩:=η3 hG R U;obtain⟨W,hW,b1,b2,b3,hB,hS⟩:=bX w #[.bool s1,.slice a1 n1 c1] #[.bool s2,.slice a2 n2 c2] #[.bool false,.slice none 0 0] 53 53 53;obtain⟨A,E,B1,B2,B3,HW⟩:=η6 hB hS b1 b2 b3 hW;clear hB hS b1 b2 b3 hW ha hb sx sy R U an ao X Y hG;generalize Int.gcd x y=G at *
 go_enter func112,ntmps112
 go_wp2
 go_quiet (fail)
 rw[HW.o];go_wp2
 go_loopg [5,6] (val ys) (fun k xv yv wr=>GcdI W wr G k xv yv)
 case atStart =>
  have H:Bl W (W.drewN nq):=aE β _;exact⟨_,_,_,xs,_,_,_,ys,rfl,rfl,(M1.o.below A.o).below H,(M2.o.below A.o).below H,af,ag,ab,ac,rfl,HG.o,H⟩
 case round =>
  obtain⟨a,n,c,d,b,m,e,f,rfl,rfl,H,hf,nd,nf,hn,hm,hk,hg,Q⟩:=hrel;obtain⟨D,F,ND,NF,K,GG,L⟩:=η7 H hf nd nf hk hg Q;clear H hf nd nf hk hg Q;by_cases ad:0<m
  ·have j:0<val f:=eX NF.o (by intro h;have:=F.o.len;rw[h]at this;simp at this;omega)
   have C:=O j;clear j
   go_wp2_with fail
   refine(lV _ _ _ _ _ _ d f _ D.o F.o ND.o NF.o hn hm C.o).mono ?_;rintro e0 w1 ⟨⟨p1,p2,p3,p4,p5,p6,p7,p8,rfl,q1,q2,q3,q4,q5,q6⟩,J⟩;obtain⟨Q4,Q5,Q6,L1⟩:=η4 q4 q5 q6 J;clear q1 q2 q3 q4 q5 q6 J;go_wp2
   go_roundg (val p8)
   case measure =>
    rw[Q6.o,<-K.o];exact Nat.mod_lt _ C.o
   case rel =>
    refine⟨_,_,_,f,_,_,_,p8,rfl,rfl,F.o.below L1.o,Q4.o,NF.o,Q5.o,hm,?_,rfl,?_,ae L.o L1.o ρ⟩
    ·have h1:p8.length<=f.length:=im F.o.dg Q5.o (by rw[Q6.o];exact Nat.le_of_lt (Nat.mod_lt _ C.o))
     have:=Q4.o.len;have:=F.o.len;omega
    ·rw[Q6.o,<-GG.o,Nat.gcd_comm (val d),Nat.gcd_rec (val f) (val d),Nat.gcd_comm]
  ·obtain rfl:m=0:=I
   have j:f=[]:=List.length_eq_zero_iff.1 (ψ F.o.len);have u:val d=G:=by have:=GG.o;rw[j]at this;simpa[val]using this
   obtain⟨x0,x1,x2,x3⟩:=(B3.o.below L.o (ψ E.o)).two;have aa:=O u;clear ad j u;go_wp2;have b4:=B3.o.below L.o (ψ E.o);refine aL results112 (w.heap.size+2) (b4.set2 (.bool false) (.slice a n c)) _ rfl underlying53 rfl dh rfl
    ⟨cT.boxed (qJ D.o ND.o false _ (by rw[aa.o];rfl) (by simp)) b4,aS (ae A.o L.o (ψ E.o)) I _ _⟩
theorem ret_box2{P:Program}{Q:Func}{R:Ending->World->Prop}{a:Act}{w:World}{p q u:Tmp}{ty A:TypeId}(h:Q.results=#[.cell p ty,.cell q A,.tmp u])(g g':Nat){cs j:Array Value}{t U:TypeId}(Y:Box w g cs t)(G:Box w g' j U)(d C:TypeDesc)(hp:a.tmps.getD p undef=.pointer (some ⟨g,0,.none⟩))(J:a.tmps.getD q undef=.pointer (some ⟨g',0,.none⟩))(hu:P.underlying ty=some d)(L:P.underlying A=some C)(X:(match d with|.struct _|.array _ _=>true|_=>false)=true)(E:(match C with|.struct _|.array _ _=>true|_=>false)=true)(hi:(P.info? ty).map (·.size)=some cs.size)(H:(P.info? A).map (·.size)=some j.size)(F:a.defers=[])(hR:R (.returned (.tuple #[.agg cs,.agg j,a.tmps.getD u undef])) w):
 bodyPost P Q R .ret a w:=by
 refine bodyPost_ret ?_ F hR;have e:a.tmps[p]?.getD undef=.pointer (some ⟨g,0,none⟩):=by simpa using hp
 have W:a.tmps[q]?.getD undef=.pointer (some ⟨g',0,none⟩):=by simpa using J
 simp[results,h,e,W,asAddr,run_loadVar_row w g t ty cs _ d Y hu X hi,run_loadVar_row w g' U A j _ C G L E H]
theorem bQ{P:Program}{A:Func}{R:Ending->World->Prop}{a:Act}{w:World}{p u:Tmp}{ty:TypeId}(h:A.results=#[.cell p ty,.tmp u])(g:Nat){cs:Array Value}{t:TypeId}(E:Box w g cs t)(d:TypeDesc)(F:a.tmps.getD p undef=.pointer (some ⟨g,0,.none⟩))(G:P.underlying ty=some d)(C:(match d with|.struct _|.array _ _=>true|_=>false)=true)(hi:(P.info? ty).map (·.size)=some cs.size)(j:a.defers=[])(hR:R (.returned (.tuple #[.agg cs,a.tmps.getD u undef])) w):
 bodyPost P A R .ret a w:=by
 refine bodyPost_ret ?_ j hR;have e:a.tmps[p]?.getD undef=.pointer (some ⟨g,0,none⟩):=by simpa using F
 simp[results,h,e,asAddr,run_loadVar_row w g t ty cs _ d E G C hi]
theorem kI(w:World)(c1 c2 c3 c4:Array Value)(t1 t2 t3 e:TypeId):
 ∃W,(((w.alloc (.cells c1 t1)).alloc (.cells c2 t2)).alloc (.cells c3 t3)).alloc (.cells c4 e)=W/\Box W w.heap.size c1 t1/\Box W (w.heap.size+1) c2 t2/\Box W (w.heap.size+2) c3 t3/\Box W (w.heap.size+3) c4 e /\
  Bl w W/\W.heap.size=w.heap.size+4:=
 ⟨_,rfl,(((Box.new w c1 t1 _ rfl).old _).old _).old _,((Box.new _ c2 t2 _ (by simp)).old _).old _,(Box.new _ c3 t3 _ (by simp)).old _,Box.new _ c4 e _ (by simp),by go_grown,by simp⟩
theorem sgn_div{x y:Int}(j:0<y)(h:y∣x)(b:Bool)(hb:b=decide (x<0)):sgn b (x.natAbs / y.natAbs)=x / y:=by
 obtain⟨k,rfl⟩:=h;rw[Int.natAbs_mul,Nat.mul_div_cancel_left _ I,Int.mul_ediv_cancel_left _ I,hb];unfold sgn;by_cases e:k<0
 ·have:y*k<0:=Int.mul_neg_of_pos_of_neg j e
  rw[if_pos (by simpa using this)];omega
 ·have:0<=y*k:=Int.mul_nonneg I I
  rw[if_neg (by simpa using this)];omega
theorem mod_zero{x y:Int}(h:y∣x):x.natAbs % y.natAbs=0:=by
 obtain⟨k,rfl⟩:=h;rw[Int.natAbs_mul,Nat.mul_mod_right]
theorem keep11{W w':World}{n g1 g2:Nat}{a b c d:Value}{t1 t2:TypeId}(b1:Box W g1 #[a,b] t1)(b2:Box W g2 #[c,d] t2)(h:Below n W w')(e:g1<n)(j:g2<n):
 w'.cell? ⟨g1,0,.none⟩=.some a/\w'.cell? ⟨g2,0,.none⟩=.some c:=⟨(b1.below h e).cell 0,(b2.below h j).cell 0⟩
theorem keep11_set{W w':World}{n g1 g2:Nat}{a b c d:Value}{t1 t2:TypeId}(b1:Box W g1 #[a,b] t1)(b2:Box W g2 #[c,d] t2)(h:Below n W w')(j:g1<n)(u:g2<n){e:Nat}(A:g1≠e)(C:g2≠e)(x y:Value):
 ((w'.setCell ⟨e,0,.none⟩ x).setCell ⟨e,1,.none⟩ y).cell? ⟨g1,0,.none⟩=.some a/\((w'.setCell ⟨e,0,.none⟩ x).setCell ⟨e,1,.none⟩ y).cell? ⟨g2,0,.none⟩=.some c:=
 ⟨((b1.below h j).other2 A x y).cell 0,((b2.below h u).other2 C x y).cell 0⟩
theorem keep11_set2{W w':World}{n g1 g2:Nat}{a b c d:Value}{t1 t2:TypeId}(b1:Box W g1 #[a,b] t1)(b2:Box W g2 #[c,d] t2)(h:Below n W w')(C:g1<n)(E:g2<n){e j:Nat}(F:g1≠e)(G:g2≠e)(H:g1≠j)(J:g2≠j)(x y u A:Value):
 ((((w'.setCell ⟨e,0,.none⟩ x).setCell ⟨e,1,.none⟩ y).setCell ⟨j,0,.none⟩ u).setCell ⟨j,1,.none⟩ A).cell? ⟨g1,0,.none⟩=.some a /\
 ((((w'.setCell ⟨e,0,.none⟩ x).setCell ⟨e,1,.none⟩ y).setCell ⟨j,0,.none⟩ u).setCell ⟨j,1,.none⟩ A).cell? ⟨g2,0,.none⟩=.some c:=
 ⟨(((b1.below h C).other2 F x y).other2 H u A).cell 0,(((b2.below h E).other2 G x y).other2 J u A).cell 0⟩
def RetQuo(w:World)(e:Ending)(z:Int):Prop:=∃v u,e=.returned (.tuple #[v,u,.int .i64 0])/\aU w v z
def RetQuo2(w:World)(e:Ending)(z:Int):Prop:=∃v s a n c,e=.returned (.tuple #[v,.agg #[.bool s,.slice a n c],.int .i64 0])/\aU w v z
theorem oR(va vb:Value)(x y:Int)(w:World)(ha:aU w va x)(hb:aU w vb y)(sx:Small x)(sy:Small y)(hy:0<y)(hd:y∣x):
 Calls prog 113 #[va,vb] w fun e w'=>RetQuo2 w' e (x / y)/\Bl w w':=by
 have HB:=O hb;obtain⟨s1,a1,n1,c1,xs,rfl,ap,an,a6,au,a0⟩:=ha.open sx;obtain⟨s2,a2,n2,c2,ys,rfl,ar,ao,a7,C,a5⟩:=hb.open sy;obtain rfl:s2=false:=by rw[ar];simp;omega
 have hY:0<val ys:=I;have hQ:=sgn_div hy hd s1 ap;have hM:=mod_zero hd;rw[<-au,<-C]at hQ hM;obtain⟨HQ,HM,HY,M1,M2⟩:=η5 hQ hM hY an ao;obtain⟨W,hW,b1,b2,Y,b4,hB,hS⟩:=kI w #[.bool s1,.slice a1 n1 c1] #[.bool false,.slice a2 n2 c2] #[.bool false,.slice none 0 0] #[.bool false,.slice none 0 0] 53 53 53 53;obtain⟨G,u,R,U,B3,B4,HW⟩:=η7 hB hS b1 b2 Y b4 hW;have hc:dj y 0=1:=by
  unfold dj;split
  ·omega
  ·rfl
 clear hB hS b1 b2 Y b4 hW ha hb an ao ap ar au C hQ hM hY;obtain⟨x0,x1,-,-⟩:=R.o.two;obtain⟨y0,y1,-,-⟩:=U.o.two
 go_enter func113,ntmps113
 go_wp2_with fail
 rw[HW.o]
 go_wp2_with fail
 refine(fG _ y _ (HB.o.below G.o) sy).mono ?_;rw[hc];rintro e w0 ⟨rfl,ad⟩;have L0:=O ad;have ay:_:=(R.o.below L0.o (ψ u.o)).two;have az:_:=(U.o.below L0.o (ψ u.o)).two;obtain⟨ba,bc,-,-⟩:=ay;obtain⟨be,bf,-,-⟩:=az;clear ad
 go_wp2_with fail
 refine(lV _ _ _ _ _ _ xs ys _ (M1.o.below (ae G.o L0.o (ψ u.o))) (M2.o.below (ae G.o L0.o (ψ u.o))) a6 a7 a0 a5 HY.o).mono ?_;rintro e1 w1 ⟨⟨p1,p2,p3,p4,p5,p6,p7,p8,rfl,q1,q2,q3,q4,q5,q6⟩,af⟩;obtain⟨Q1,Q3,Q4,Q6⟩:=η4 q1 q3 q4 q6;have a8:p2<=1000000:=by
  have:=im M1.o.dg q2 (by rw[q3];exact Nat.div_le_self _ _);have:=q1.len;have:=M1.o.len;omega
 have a9:p6<=1000000:=by
  have:=im M1.o.dg q5 (by rw[q6];exact Nat.mod_le _ _);have:=q4.len;have:=M1.o.len;omega
 have L1:=O (ae L0.o af ρ);clear q1 q2 q3 q4 q5 q6 af
 go_wp2_with fail
 go_region_held3 (fun w'=>w'.cell? ⟨w.heap.size,0,none⟩=some (.bool s1)/\w'.cell? ⟨w.heap.size+1,0,none⟩=some (.bool false))
  (first
   | with_reducible exact keep11_set2 R.o U.o J.o (ψ u.o) (ψ u.o) I I I I _ _ _ _
   | with_reducible exact keep11_set R.o U.o J.o (ψ u.o) (ψ u.o) I I _ _
   | with_reducible exact keep11 R.o U.o J.o (ψ u.o) (ψ u.o)
   | with_reducible exact keep11 R.o U.o L2.o (ψ u.o) (ψ u.o)
   | with_reducible exact keep11 R.o U.o L1.o.drew (ψ u.o) (ψ u.o))
  (first
   | (have aw:=V2.o;clear aw;go_at_call 105;refine(dK _ p5 p6 p7 p8 w2 (Q4.o.below H2.o) I).mono ?_;rw[Q6.o,HM.o];rintro e w3 ⟨⟨v3,rfl,av⟩,ab⟩
      obtain⟨V3,VQ⟩:=η2 av (V2.o.below ab);have J:Hid (Bl W w3):=ae L2.o ab ρ;obtain⟨s4,L,Q,c4,d4,rfl,-⟩:=av;obtain⟨z0,z1,z2,z3⟩:=(B3.o.below J.o (ψ u.o)).two;obtain⟨u0,u1,u2,u3⟩:=(B4.o.below J.o (ψ u.o)).two;clear ab)
   | (go_at_call 105;refine(dK _ p1 p2 p3 p4 w1.drew (Q1.o.below β.drew) I).mono ?_;rw[Q3.o];rintro e w2 ⟨⟨v2,rfl,C⟩,aa⟩
      have V2:=O C;have L2:Hid (Bl W w2):=ae L1.o.drew aa ρ;have H2:Hid (Bl w1 w2):=ae β.drew aa ρ;obtain⟨s3,E,F,c3,d3,rfl,-⟩:=C;clear aa))
 obtain⟨X,hX⟩:=χ (((((w3.setCell ⟨w.heap.size+1+1,0,none⟩ (.bool s3)).setCell ⟨w.heap.size+1+1,1,none⟩ (.slice E F c3)).setCell ⟨w.heap.size+1+1+1,0,none⟩ (.bool s4)).setCell ⟨w.heap.size+1+1+1,1,none⟩ (.slice L Q c4)));have Y:=B3.o.below J.o (ψ u.o);have b4:=B4.o.below J.o (ψ u.o);have k3:Box X (w.heap.size+2) #[.bool s3,.slice E F c3] 53:=hX▸(Y.set2 (.bool s3) (.slice E F c3)).other2 I _ _;have H:=b4.other2 (g':=w.heap.size+2) (i:=0) (j:=1) I (.bool s3) (.slice E F c3);have k4:Box X (w.heap.size+3) #[.bool s4,.slice L Q c4] 53:=hX▸H.set2 (.bool s4) (.slice L Q c4);have i3:aU X (.agg #[.bool s3,.slice E F c3]) (x / y):=by
  rw[<-hX,<-HQ.o];exact(VQ.o.store2 Y _ _).store2 H _ _
 have i4:aU X (.agg #[.bool s4,.slice L Q c4]) 0:=by
  rw[<-hX];have:=V3.o;rw[show sgn s1 0=0 from by unfold sgn;cases s1<;>rfl]at this;exact(this.store2 Y _ _).store2 H _ _
 have ag:Bl w X:=by
  rw[<-hX];exact aS (aS (ae G.o J.o (ψ u.o)) I _ _) I _ _
 obtain⟨K3,K4,I3,I4,L5,X1⟩:=η6 k3 k4 i3 i4 ag hX;clear Y b4 k3 k4 H i3 i4 ag hX
 go_wp2_with fail
 rw[X1.o];refine(fG _ 0 _ I4.o ⟨0,by omega,by simp⟩).mono ?_;rw[show dj 0 0=0 from rfl];rintro e w4 ⟨rfl,A⟩;have h5:=K3.o.to A;have h6:=K4.o.to A;obtain⟨K5,K6,I5,L6⟩:=η4 h5 h6 (I3.o.below A) (ae L5.o A ρ);obtain⟨z0,z1,z2,z3⟩:=h5.two;obtain⟨u0,u1,u2,u3⟩:=h6.two;clear h5 h6 A X1 K3 K4 I3 I4 L5;go_wp2;go_region;go_wp2;have b5:Box ((((w4.setCell ⟨w.heap.size+1+1,0,none⟩ (.bool s3)).setCell ⟨w.heap.size+1+1,1,none⟩ (.slice E F c3)).setCell ⟨w.heap.size+1+1+1,0,none⟩ (.bool s4)).setCell ⟨w.heap.size+1+1+1,1,none⟩ (.slice L Q c4)).drew (w.heap.size+1+1) #[.bool s3,.slice E F c3] 53:=
  (K5.o.set2 (.bool s3) (.slice E F c3)).other2 I _ _
 have ac:=K6.o.other2 (g':=w.heap.size+1+1) (i:=0) (j:=1) I (.bool s3) (.slice E F c3);have b6:Box ((((w4.setCell ⟨w.heap.size+1+1,0,none⟩ (.bool s3)).setCell ⟨w.heap.size+1+1,1,none⟩ (.slice E F c3)).setCell ⟨w.heap.size+1+1+1,0,none⟩ (.bool s4)).setCell ⟨w.heap.size+1+1+1,1,none⟩ (.slice L Q c4)).drew (w.heap.size+1+1+1) #[.bool s4,.slice L Q c4] 53:=
  ac.set2 (.bool s4) (.slice L Q c4)
 refine ret_box2 results113 (w.heap.size+1+1) (w.heap.size+1+1+1) b5 b6 _ _ rfl rfl underlying53 underlying53 rfl rfl dh dh rfl ⟨⟨_,_,_,_,_,rfl,?_⟩,?_⟩
 ·exact((I5.o.store2 K5.o _ _).store2 ac _ _).below β.drew
 ·exact(aS (aS L6.o I _ _) I _ _).drew
theorem m9(j u:Value)(x y:Int)(w:World)(ha:aU w j x)(hb:aU w u y)(H:Small x)(J:Small y)(G:0<y)(F:y∣x):
 Calls prog 113 #[j,u] w fun e w'=>RetQuo w' e (x / y)/\Bl w w':=
 (oR j u x y w ha hb H J G F).mono fun e w' h=>by
  obtain⟨⟨v,s,a,n,c,A,C⟩,E⟩:=h;exact⟨⟨v,_,A,C⟩,E⟩
def aj(w:World)(v:Value)(q:Rat):Prop:=
 ∃s1 a1 n1 c1 s2 a2 n2 c2 d,v=.agg #[.bool s1,.slice a1 n1 c1,.bool s2,.slice a2 n2 c2]/\aU w (.agg #[.bool s1,.slice a1 n1 c1]) q.num /\
  aU w (.agg #[.bool s2,.slice a2 n2 c2]) d/\(d=q.den\/d=0/\q.den=1)
theorem aj.below{w w':World}{v:Value}{q:Rat}(h:aj w v q)(hb:Bl w w'):aj w' v q:=by
 obtain⟨s1,e,F,c1,s2,j,G,c2,d,u,A,C,E⟩:=h;exact⟨s1,e,F,c1,s2,j,G,c2,d,u,A.below hb,C.below hb,E⟩
def dO(w:World)(e:Ending)(q:Rat):Prop:=∃v,e=.returned v/\aj w v q
def Bd(k:Nat)(q:Rat):Prop:=q.num.natAbs<B ^ k/\q.den<B ^ k
theorem Bd.num{k:Nat}{q:Rat}(h:Bd k q)(e:k<=1000000):Small q.num:=⟨k,e,h.1⟩
theorem Bd.den{k:Nat}{q:Rat}(h:Bd k q)(e:k<=1000000):Small (q.den:Int):=⟨k,e,h.2⟩
theorem Bd.mono{k l:Nat}{q:Rat}(h:Bd k q)(e:k<=l):Bd l q:=
 have:=Nat.pow_le_pow_right (show 0<B by unfold B;omega) e
 ⟨Nat.lt_of_lt_of_le h.1 this,Nat.lt_of_lt_of_le h.2 this⟩
theorem small_zero:Small 0:=⟨0,by omega,by simp⟩
theorem sE:Small 1:=⟨1,by omega,by unfold B;simp⟩
theorem Bd.den'{k:Nat}{q:Rat}{d:Int}(h:Bd k q)(j:k<=1000000)(e:d=q.den\/d=0/\q.den=1):Small d:=by
 rcases e with rfl|⟨rfl,-⟩
 ·exact h.den j
 ·exact small_zero
theorem Bd.pow_mul{k l:Nat}{a b:Nat}(ha:a<B ^ k)(hb:b<B ^ l):a*b<B ^ (k+l):=by
 rw[Nat.pow_add];exact Nat.mul_lt_mul'' ha hb
theorem eY{k:Nat}{n d:Int}(j:n.natAbs<B ^ k)(e:d.natAbs<B ^ k)(h0:d≠0):Bd k (Rat.divInt n d):=by
 refine⟨?_,?_⟩
 ·rw[Rat.num_divInt]
  refine Nat.lt_of_le_of_lt (Nat.le_trans ?_ (Nat.le_refl n.natAbs)) j;have u:(d.sign*n / (d.gcd n:Nat)).natAbs<=(d.sign*n).natAbs:=Int.natAbs_ediv_le_natAbs _ _;have A:(d.sign*n).natAbs=n.natAbs:=by rw[Int.natAbs_mul,Int.natAbs_sign_of_ne_zero h0,Nat.one_mul]
  omega
 ·rw[Rat.den_divInt,if_neg h0]
  exact Nat.lt_of_le_of_lt (Nat.div_le_self _ _) e
theorem lZ(x y:Rat):x+y=Rat.divInt (x.num*y.den+y.num*x.den) ((x.den*y.den:Nat):Int):=by rw[Rat.add_def',Rat.divInt_ofNat]
theorem lM(x y:Rat):x*y=Rat.divInt (x.num*y.num) ((x.den*y.den:Nat):Int):=by rw[Rat.mul_def',Rat.divInt_ofNat]
theorem Bd.add{k l:Nat}{x y:Rat}(e:Bd k x)(j:Bd l y):Bd (k+l+1) (x+y):=by
 rw[lZ];have A:=Bd.pow_mul e.1 j.2;have u:=Bd.pow_mul j.1 e.2;have C:=Bd.pow_mul e.2 j.2;have E:B ^ (k+l+1)=B ^ (k+l)*B:=Nat.pow_succ ..;have F:B ^ (k+l)*2<=B ^ (k+l)*B:=Nat.mul_le_mul_left _ (by unfold B;omega);rw[show l+k=k+l from by omega]at u;refine eY ?_ ?_ ?_
 ·refine Nat.lt_of_le_of_lt (Int.natAbs_add_le _ _) ?_
  rw[Int.natAbs_mul,Int.natAbs_mul,Int.natAbs_natCast,Int.natAbs_natCast];omega
 ·rw[Int.natAbs_natCast];omega
 ·have:=Nat.mul_pos x.den_pos y.den_pos;omega
theorem Bd.mul{k l:Nat}{x y:Rat}(e:Bd k x)(j:Bd l y):Bd (k+l) (x*y):=by
 rw[lM];refine eY ?_ ?_ ?_
 ·rw[Int.natAbs_mul];exact Bd.pow_mul e.1 j.1
 ·rw[Int.natAbs_natCast];exact Bd.pow_mul e.2 j.2
 ·have:=Nat.mul_pos x.den_pos y.den_pos;omega
theorem Bd.neg{k:Nat}{x:Rat}(e:Bd k x):Bd k (-x):=⟨by rw[Rat.neg_num,Int.natAbs_neg];exact e.1,by rw[Rat.neg_den];exact e.2⟩
theorem Bd.sub{k l:Nat}{x y:Rat}(e:Bd k x)(j:Bd l y):Bd (k+l+1) (x-y):=by rw[Rat.sub_eq_add_neg];exact e.add j.neg
theorem Bd.int(n:Int)(h:n.natAbs<B ^ 2):Bd 2 (n:Rat):=⟨h,by show 1<B ^ 2;unfold B;omega⟩
theorem Bd.zero:Bd 1 0:=⟨by show 0<B ^ 1;unfold B;omega,by show 1<B ^ 1;unfold B;omega⟩
theorem aj.open{w:World}{v:Value}{q:Rat}(h:aj w v q):
 ∃s1 e u c1 s2 j A c2 d,v=.agg #[.bool s1,.slice e u c1,.bool s2,.slice j A c2]/\aU w (.agg #[.bool s1,.slice e u c1]) q.num /\
  aU w (.agg #[.bool s2,.slice j A c2]) d/\(d=q.den\/d=0/\q.den=1):=h
theorem jH(w:World):aU w (.agg #[.bool false,.slice .none 0 0]) 0:=⟨_,_,_,_,[],rfl,rfl,Mag.nil w,Or.inl rfl,rfl⟩
theorem kW{w:World}{s:Bool}{a:Option Addr}{n c:Nat}{z:Int}(h:aU w (.agg #[.bool s,.slice a n c]) z):aj w (.agg #[.bool s,.slice a n c,.bool false,.slice .none 0 0]) (z:Rat):=
 ⟨_,_,_,_,_,_,_,_,0,rfl,h,jH w,Or.inr ⟨rfl,rfl⟩⟩
theorem aU.store4{w:World}{v:Value}{z:Int}(h:aU w v z){g:Nat}{b u:Bool}{a j:Option Addr}{n c C A:Nat}{t:TypeId}(hb:Box w g #[.bool b,.slice a n c,.bool u,.slice j C A] t)(x y E F:Value):
 aU ((((w.setCell ⟨g,0,.none⟩ x).setCell ⟨g,1,.none⟩ y).setCell ⟨g,2,.none⟩ E).setCell ⟨g,3,.none⟩ F) v z:=by
 obtain⟨h0,G,H,J,-⟩:=hb.four;refine(((h.setCell h0 (g9.bool b) x).setCell ?_ (g9.slice a n c) y).setCell ?_ (g9.bool u) E).setCell ?_ (g9.slice j C A) F
 ·rw[World.cell?_setCell_other _ _ _ _ (by intro e;cases e)];exact G
 ·rw[World.cell?_setCell_other _ _ _ _ (by intro e;cases e),World.cell?_setCell_other _ _ _ _ (by intro e;cases e)];exact H
 ·rw[World.cell?_setCell_other _ _ _ _ (by intro e;cases e),World.cell?_setCell_other _ _ _ _ (by intro e;cases e),World.cell?_setCell_other _ _ _ _ (by intro e;cases e)];exact J
theorem aj.store4{w:World}{v:Value}{q:Rat}(h:aj w v q){g:Nat}{b A:Bool}{a e:Option Addr}{n c J C:Nat}{t:TypeId}(hb:Box w g #[.bool b,.slice a n c,.bool A,.slice e J C] t)(x y R U:Value):
 aj ((((w.setCell ⟨g,0,.none⟩ x).setCell ⟨g,1,.none⟩ y).setCell ⟨g,2,.none⟩ R).setCell ⟨g,3,.none⟩ U) v q:=by
 obtain⟨s1,j,L,c1,s2,u,Q,c2,d,E,F,G,H⟩:=h;exact⟨s1,j,L,c1,s2,u,Q,c2,d,E,F.store4 hb _ _ _ _,G.store4 hb _ _ _ _,H⟩
theorem aR{w w':World}{n g:Nat}(h:Below n w w')(e:n<=g)(x y j u:Value):
 Below n w ((((w'.setCell ⟨g,0,.none⟩ x).setCell ⟨g,1,.none⟩ y).setCell ⟨g,2,.none⟩ j).setCell ⟨g,3,.none⟩ u):=
 (((h.setCell e x).setCell e y).setCell e j).setCell e u
theorem sW{W w':World}{n g1:Nat}{a b c d:Value}{t1:TypeId}(b1:Box W g1 #[a,b,c,d] t1)(h:Below n W w')(e:g1<n):
 w'.cell? ⟨g1,0,.none⟩=.some a/\w'.cell? ⟨g1,1,.none⟩=.some b/\w'.cell? ⟨g1,2,.none⟩=.some c/\w'.cell? ⟨g1,3,.none⟩=.some d:=
 ⟨(b1.below h e).cell 0,(b1.below h e).cell 1,(b1.below h e).cell 2,(b1.below h e).cell 3⟩
theorem Box.other4{w:World}{g:Nat}{cs:Array Value}{t:TypeId}(h:Box w g cs t){g':Nat}(e:g≠g')(x y z u:Value):
 Box ((((w.setCell ⟨g',0,.none⟩ x).setCell ⟨g',1,.none⟩ y).setCell ⟨g',2,.none⟩ z).setCell ⟨g',3,.none⟩ u) g cs t:=
 (h.other2 e x y).other2 e z u
theorem aY:(prog.info? 55).map (·.size)=some 4:=by kernel_rfl
theorem mD(w:World):Calls prog 103 #[] w fun e w'=>cT w' e 1/\Bl w w':=by
 go_enter func103,ntmps103
 obtain⟨W,J,b1,E,hS⟩:=aB w #[.bool false,.slice none 0 0] 53
 go_wp2_with fail
 refine(jw 1 _ I I).mono ?_;rintro e R ⟨⟨Q,rfl,A⟩,j⟩;have G:=O A;have u:=b1.below j I;obtain⟨C,F⟩:=η2 u (ae E j ρ);obtain⟨s3,H,L,c3,d3,rfl,-⟩:=A;obtain⟨U,X,Y,x3⟩:=u.two;clear j u b1 E hS J;go_wp2;exact aL results103 w.heap.size (C.o.set2 (.bool s3) (.slice H L c3)) _ rfl underlying53 rfl dh rfl
  ⟨cT.boxed G.o C.o,aS F.o ρ _ _⟩
theorem dV(n:Int)(w:World)(E:-9223372036854775808<=n)(F:n<=9223372036854775807):
 Calls prog 23 #[.int .i64 n] w fun e w'=>dO w' e (n:Rat)/\Bl w w':=by
 have hc:=jw n;have H:=O (fun w=>hc w E F);clear hc E F
 go_enter func23,ntmps23
 obtain⟨W,R,b1,G,hS⟩:=aB w #[.bool false,.slice none 0 0,.bool false,.slice none 0 0] 55
 go_wp2_with fail
 refine(H.o _).mono ?_;rintro e Y ⟨⟨X,rfl,A⟩,j⟩;have L:=O A;have u:=b1.below j I;obtain⟨C,J⟩:=η2 u (ae G j ρ);obtain⟨s3,Q,U,c3,d3,rfl,-⟩:=A;obtain⟨x0,x1,x2,x3,x4⟩:=u.four;clear j u b1 G hS R;go_wp2;exact aL results23 w.heap.size (C.o.set4 (.bool s3) (.slice Q U c3) (.bool false) (.slice none 0 0)) _ rfl underlying55 rfl aY rfl
  ⟨⟨_,rfl,(kW L.o).store4 C.o _ _ _ _⟩,aR J.o ρ _ _ _ _⟩
theorem RSign_any(F:Value)(x:Rat)(k:Nat)(w:World)(ha:aj w F x)(C:Bd k x)(A:k<=1000000):
 Calls prog 100 #[F] w fun e w'=>e=.returned (.int .i64 (dj x.num 0))/\Bl w w':=by
 obtain⟨s1,J,R,c1,s2,L,U,c2,d,rfl,E,-,-⟩:=ha.open;obtain⟨G,X⟩:=η2 E (C.num A);clear ha E C A;obtain⟨W,Q,b1,u,hS⟩:=aB w #[.bool s1,.slice J R c1,.bool s2,.slice L U c2] 55;obtain⟨Y,x1,x2,x3,x4⟩:=b1.four
 go_enter func100,ntmps100
 go_wp2_with fail
 refine(fG _ x.num _ (G.o.below u) X.o).mono ?_;rintro e w1 ⟨rfl,j⟩;have H:=O (ae u j ρ);clear j u hS Q b1 Y x1 x2 x3 x4;go_wp2;exact bodyPost_ret (results_tmp results100 _ _ _) rfl ⟨rfl,H.o⟩
theorem Num_any(E:Value)(x:Rat)(w:World)(ha:aj w E x):
 Calls prog 120 #[E] w fun e w'=>cT w' e x.num/\Bl w w':=by
 obtain⟨s1,j,C,c1,s2,G,H,c2,d,rfl,A,-,-⟩:=ha.open;have F:=O A;clear ha A;obtain⟨W,J,b1,b2,u,hS⟩:=bY w #[.bool s1,.slice j C c1,.bool s2,.slice G H c2] #[.bool false,.slice none 0 0] 55 53;obtain⟨L,Q,R,U,X⟩:=b1.four;obtain⟨Y,y1,y2,y3⟩:=b2.two
 go_enter func120,ntmps120
 go_wp2;exact aL results120 (w.heap.size+1) (b2.set2 (.bool s1) (.slice j C c1)) _ rfl underlying53 rfl dh rfl
  ⟨cT.boxed (F.o.below u) b2,aS u I _ _⟩
theorem cmpZ_pos{n:Nat}(h:0<n):dj (n:Int) 0=1:=by
 unfold dj;split
 ·omega
 ·split
  ·rfl
  ·omega
theorem uk{x y:Int}:dj x y=0↔x=y:=by
 unfold dj;split
 ·constructor<;>intro<;>omega
 ·split<;>constructor<;>intro<;>omega
theorem eW(va:Value)(x:Rat)(k:Nat)(w:World)(ha:aj w va x)(hk:Bd k x)(h1:k<=1000000):
 Calls prog 69 #[va] w fun e w'=>cT w' e x.den/\Bl w w':=by
 obtain⟨s1,a1,n1,c1,s2,a2,n2,c2,d,rfl,-,i1,R⟩:=ha.open;obtain⟨L,sd⟩:=η2 i1 (hk.den' h1 R);clear ha i1 hk h1;obtain⟨W,hW,b1,b2,hB,hS⟩:=bY w #[.bool s1,.slice a1 n1 c1,.bool s2,.slice a2 n2 c2] #[.bool false,.slice none 0 0] 55 53;obtain⟨B1,B2,H,C⟩:=η4 b1 b2 hB hS;obtain⟨X,Y,x2,x3,x4⟩:=b1.four;clear b1 b2 hB hS;by_cases h0:d=0
 ·subst h0
  obtain U:x.den=1:=by rcases R with h|h;exact absurd h (ψ x.den_pos);exact h.2
  go_enter func69,ntmps69
  go_wp2_with fail
  refine(fG _ 0 _ (L.o.below H.o) sd.o).mono ?_;rw[show dj 0 0=0 from rfl];rintro e w1 ⟨rfl,j⟩;have J:=O (ae H.o j (ψ C.o));have u:=B2.o.below j (ψ C.o);have A:=O u;clear j hW X Y x2 x3 x4 u
  go_wp2_with fail
  refine(mD _).mono ?_;rintro e w2 ⟨⟨v1,rfl,G⟩,E⟩;have V1:=O G;have Q:=A.o.to E;obtain⟨B3,L2⟩:=η2 Q (ae J.o E ρ);obtain⟨s3,a3,n3,c3,d3,rfl,-⟩:=G;obtain⟨X,Y,x2,x3⟩:=Q.two;clear E Q;go_wp2;exact aL results69 (w.heap.size+1) (B3.o.set2 (.bool s3) (.slice a3 n3 c3)) _ rfl underlying53 rfl dh rfl
   ⟨by rw[U];exact cT.boxed V1.o B3.o,aS L2.o I _ _⟩
 ·obtain rfl:d=x.den:=by rcases R with h|h;exact h;exact absurd h.1 h0
  go_enter func69,ntmps69
  go_wp2_with fail
  refine(fG _ x.den _ (L.o.below H.o) sd.o).mono ?_;rw[cmpZ_pos x.den_pos];rintro e w1 ⟨rfl,j⟩;have J:=O (ae H.o j (ψ C.o));have F:=B1.o.below j (ψ C.o);have u:=B2.o.below j (ψ C.o);have A:=O u;obtain⟨X,Y,x2,x3,x4⟩:=F.four;obtain⟨y0,y1,y2,y3⟩:=u.two;clear j hW F u;go_wp2;exact aL results69 (w.heap.size+1) (A.o.set2 (.bool s2) (.slice a2 n2 c2)) _ rfl underlying53 rfl dh rfl
   ⟨cT.boxed (L.o.below J.o) A.o,aS J.o I _ _⟩
theorem fL(va:Value)(x:Rat)(k:Nat)(w:World)(ha:aj w va x)(hk:Bd k x)(h1:k<=1000000):
 Calls prog 66 #[va] w fun e w'=>e=.returned (.bool (decide (x.den=1)))/\Bl w w':=by
 obtain⟨s1,a1,n1,c1,s2,a2,n2,c2,d,rfl,-,i1,A⟩:=ha.open;obtain⟨R,sd⟩:=η2 i1 (hk.den' h1 A);clear ha i1 hk h1;obtain⟨W,hW,b1,hB,hS⟩:=aB w #[.bool s1,.slice a1 n1 c1,.bool s2,.slice a2 n2 c2] 55;obtain⟨J,C,j⟩:=η3 b1 hB hS;obtain⟨x0,x1,x2,x3,x4⟩:=b1.four;clear b1 hB hS;by_cases h0:d=0
 ·subst h0
  obtain Y:x.den=1:=by rcases A with h|h;exact absurd h (ψ x.den_pos);exact h.2
  go_enter func66,ntmps66
  go_wp2_with fail
  first|(go_region_with (go_at_call 102;refine(fG _ 0 _ (R.o.below C.o.drew) sd.o).mono ?_;rw[show dj 0 0=0 from rfl];rintro e w1 ⟨rfl,u⟩;have L:Hid (Bl W w1):=ae β.drew u ρ;clear u))|fail
  all_goals
   go_wp2;exact bodyPost_ret (results_tmp results66 _ _ _) rfl ⟨by rw[Y];rfl,ae C.o L.o (ψ j.o)⟩
 ·obtain rfl:d=x.den:=by rcases A with h|h;exact h;exact absurd h.1 h0
  have G:=cmpZ_pos x.den_pos;have Q:=O G;have X:dj x.den 1=0/\decide (x.den=1)=true\/dj x.den 1=1/\decide (x.den=1)=false:=by
   have:=x.den_pos;unfold dj;by_cases h:x.den=1
   ·left;rw[h];exact⟨rfl,rfl⟩
   ·right;rw[if_neg I,if_pos I];exact⟨rfl,by simpa using h⟩
  clear G
  rcases X with⟨hc,A⟩|⟨hc,A⟩
  all_goals
   obtain⟨HC,HD⟩:=η2 hc A;clear hc A
   go_enter func66,ntmps66
   go_wp2_with fail
   go_region_held3 (fun w'=>w'.cell? ⟨w.heap.size,2,none⟩=some (.bool s2)/\w'.cell? ⟨w.heap.size,3,none⟩=some (.slice a2 n2 c2))
    (first
     | with_reducible exact(sW J.o L3.o (ψ j.o)).2.2
     | with_reducible exact(sW J.o U.o (ψ j.o)).2.2
     | with_reducible exact(sW J.o L.o (ψ j.o)).2.2
     | with_reducible exact(sW J.o (Below.refl W.heap.size W).drew (ψ j.o)).2.2)
    (first
     | (go_at_call 102;refine(fG _ (x.den:Int) _ (R.o.below C.o.drew) sd.o).mono ?_;rw[Q.o];rintro e w1 ⟨rfl,u⟩
        have L:Hid (Bl W w1):=ae β.drew u ρ;clear u)
     | (go_at_call 103;refine(mD _).mono ?_;rintro e w2 ⟨⟨v2,rfl,H⟩,E⟩
        have V2:=O H;have U:Hid (Bl W w2):=ae L.o E ρ;clear E H)
     | (go_at_call 67;refine(fk _ _ (x.den:Int) 1 _ (R.o.below (ae C.o U.o (ψ j.o))) V2.o sd.o sE).mono ?_;rw[HC.o];rintro e w3 ⟨rfl,F⟩
        have L3:Hid (Bl W w3):=ae U.o F ρ;clear F))
   go_wp2;exact bodyPost_ret (results_tmp results66 _ _ _) rfl ⟨by rw[HD.o];rfl,ae C.o L3.o (ψ j.o)⟩
theorem iB{W w':World}{n g1 g2:Nat}{a b c d u A C E:Value}{t1 t2:TypeId}(b1:Box W g1 #[a,b,c,d] t1)(b2:Box W g2 #[u,A,C,E] t2)(h:Below n W w')(e:g1<n)(j:g2<n):
 w'.cell? ⟨g1,0,.none⟩=.some a/\w'.cell? ⟨g1,1,.none⟩=.some b/\w'.cell? ⟨g1,2,.none⟩=.some c/\w'.cell? ⟨g1,3,.none⟩=.some d /\
 w'.cell? ⟨g2,0,.none⟩=.some u/\w'.cell? ⟨g2,1,.none⟩=.some A/\w'.cell? ⟨g2,2,.none⟩=.some C/\w'.cell? ⟨g2,3,.none⟩=.some E:=
 ⟨(b1.below h e).cell 0,(b1.below h e).cell 1,(b1.below h e).cell 2,(b1.below h e).cell 3,(b2.below h j).cell 0,(b2.below h j).cell 1,(b2.below h j).cell 2,(b2.below h j).cell 3⟩
theorem nG{W w':World}{n g1:Nat}{a b c d:Value}{t1:TypeId}(b1:Box W g1 #[a,b,c,d] t1)(h:Below n W w')(j:g1<n){e:Nat}(A:g1≠e)(x y z u:Value):
 ((((w'.setCell ⟨e,0,.none⟩ x).setCell ⟨e,1,.none⟩ y).setCell ⟨e,2,.none⟩ z).setCell ⟨e,3,.none⟩ u).cell? ⟨g1,0,.none⟩=.some a /\
 ((((w'.setCell ⟨e,0,.none⟩ x).setCell ⟨e,1,.none⟩ y).setCell ⟨e,2,.none⟩ z).setCell ⟨e,3,.none⟩ u).cell? ⟨g1,1,.none⟩=.some b /\
 ((((w'.setCell ⟨e,0,.none⟩ x).setCell ⟨e,1,.none⟩ y).setCell ⟨e,2,.none⟩ z).setCell ⟨e,3,.none⟩ u).cell? ⟨g1,2,.none⟩=.some c /\
 ((((w'.setCell ⟨e,0,.none⟩ x).setCell ⟨e,1,.none⟩ y).setCell ⟨e,2,.none⟩ z).setCell ⟨e,3,.none⟩ u).cell? ⟨g1,3,.none⟩=.some d:=
 ⟨((b1.below h j).other4 A x y z u).cell 0,((b1.below h j).other4 A x y z u).cell 1,((b1.below h j).other4 A x y z u).cell 2,((b1.below h j).other4 A x y z u).cell 3⟩
theorem jG{W w':World}{n g1 g2:Nat}{a b c d j A C E:Value}{t1 t2:TypeId}(b1:Box W g1 #[a,b,c,d] t1)(b2:Box W g2 #[j,A,C,E] t2)(h:Below n W w')(F:g1<n)(G:g2<n){e:Nat}(H:g1≠e)(J:g2≠e)(x y z u:Value):
 ((((w'.setCell ⟨e,0,.none⟩ x).setCell ⟨e,1,.none⟩ y).setCell ⟨e,2,.none⟩ z).setCell ⟨e,3,.none⟩ u).cell? ⟨g1,0,.none⟩=.some a /\
 ((((w'.setCell ⟨e,0,.none⟩ x).setCell ⟨e,1,.none⟩ y).setCell ⟨e,2,.none⟩ z).setCell ⟨e,3,.none⟩ u).cell? ⟨g1,1,.none⟩=.some b /\
 ((((w'.setCell ⟨e,0,.none⟩ x).setCell ⟨e,1,.none⟩ y).setCell ⟨e,2,.none⟩ z).setCell ⟨e,3,.none⟩ u).cell? ⟨g1,2,.none⟩=.some c /\
 ((((w'.setCell ⟨e,0,.none⟩ x).setCell ⟨e,1,.none⟩ y).setCell ⟨e,2,.none⟩ z).setCell ⟨e,3,.none⟩ u).cell? ⟨g1,3,.none⟩=.some d /\
 ((((w'.setCell ⟨e,0,.none⟩ x).setCell ⟨e,1,.none⟩ y).setCell ⟨e,2,.none⟩ z).setCell ⟨e,3,.none⟩ u).cell? ⟨g2,0,.none⟩=.some j /\
 ((((w'.setCell ⟨e,0,.none⟩ x).setCell ⟨e,1,.none⟩ y).setCell ⟨e,2,.none⟩ z).setCell ⟨e,3,.none⟩ u).cell? ⟨g2,1,.none⟩=.some A /\
 ((((w'.setCell ⟨e,0,.none⟩ x).setCell ⟨e,1,.none⟩ y).setCell ⟨e,2,.none⟩ z).setCell ⟨e,3,.none⟩ u).cell? ⟨g2,2,.none⟩=.some C /\
 ((((w'.setCell ⟨e,0,.none⟩ x).setCell ⟨e,1,.none⟩ y).setCell ⟨e,2,.none⟩ z).setCell ⟨e,3,.none⟩ u).cell? ⟨g2,3,.none⟩=.some E:=by
 obtain⟨p0,p1,p2,L⟩:=nG b1 h F H x y z u;exact⟨p0,p1,p2,L,nG b2 h G J x y z u⟩
theorem jR(W:World):Bl W W:=Below.refl _ _
theorem RNeg_any(va:Value)(x:Rat)(k:Nat)(w:World)(ha:aj w va x)(hk:Bd k x)(U:k<=1000000):
 Calls prog 195 #[va] w fun e w'=>dO w' e (-x)/\Bl w w':=by
 obtain⟨s1,Q,n1,c1,s2,H,J,c2,d,rfl,i1,i2,hd⟩:=ha.open;obtain⟨I1,I2,HD,sx⟩:=η4 i1 i2 hd (hk.num U);clear ha i1 i2 hk U hd;obtain⟨W,Y,b1,b2,X,hS⟩:=bY w #[.bool s1,.slice Q n1 c1,.bool s2,.slice H J c2] #[.bool false,.slice none 0 0,.bool false,.slice none 0 0] 55 55;obtain⟨F,L,u,j,G,HW⟩:=η6 b1 b2 X hS (jR W) Y;clear b1 b2 X hS Y
 go_enter func195,ntmps195
 go_wp2_with fail
 rw[HW.o]
 go_region_held3 (fun w'=>w'.cell? ⟨w.heap.size,0,none⟩=some (.bool s1)/\w'.cell? ⟨w.heap.size,1,none⟩=some (.slice Q n1 c1)/\w'.cell? ⟨w.heap.size,2,none⟩=some (.bool s2)/\w'.cell? ⟨w.heap.size,3,none⟩=some (.slice H J c2))
  (first
   | with_reducible exact(nG F.o A.o (ψ j.o) I _ _ _ _)
   | with_reducible exact(sW F.o A.o (ψ j.o))
   | with_reducible exact(sW F.o G.o.drew (ψ j.o)))
  (first
   | (go_at_call 111;refine(uJ _ x.num _ (I1.o.below (ae u.o G.o.drew (ψ j.o))) sx.o).mono ?_;rintro e w1 ⟨⟨v1,rfl,E⟩,C⟩
      have V1:=O E;have A:Hid (Bl W w1):=ae G.o.drew C ρ;obtain⟨s3,a3,n3,c3,d3,rfl,-⟩:=E;obtain⟨y0,y1,y2,y3,y4⟩:=(L.o.below A.o (ψ j.o)).four;clear C))
 go_wp2;have R:=L.o.below A.o (ψ j.o)
 exact aL results195 (w.heap.size+1) (R.set4 (.bool s3) (.slice a3 n3 c3) (.bool s2) (.slice H J c2)) _ rfl underlying55 rfl aY rfl
  ⟨⟨_,rfl,aj.store4 (q:=-x) ⟨_,_,_,_,_,_,_,_,d,rfl,V1.o,I2.o.below (ae u.o A.o (ψ j.o)),HD.o⟩ R _ _ _ _⟩,aR (ae u.o A.o (ψ j.o)) I _ _ _ _⟩
theorem cmpR_def(x y:Rat):dj (x.num*y.den) (y.num*x.den)=if x<y then -1 else if y<x then 1 else 0:=by
 unfold dj;simp only[Rat.lt_iff]
def dc(x y:Rat):Int:=if x<y then -1 else if y<x then 1 else 0
theorem start2(w:World)(H J:Value)(x y:Rat)(ha:aj w H x)(hb:aj w J y)(t1 t2:TypeId):
 ∃s1 e u c1 s2 C F c2 s3 j A c3 s4 E G c4,H=.agg #[.bool s1,.slice e u c1,.bool s2,.slice C F c2]/\J=.agg #[.bool s3,.slice j A c3,.bool s4,.slice E G c4] /\
  aU w (.agg #[.bool s1,.slice e u c1]) x.num/\aU w (.agg #[.bool s3,.slice j A c3]) y.num /\
  aj w (.agg #[.bool s1,.slice e u c1,.bool s2,.slice C F c2]) x/\aj w (.agg #[.bool s3,.slice j A c3,.bool s4,.slice E G c4]) y /\
  ∃W,(w.alloc (.cells #[.bool s1,.slice e u c1,.bool s2,.slice C F c2] t1)).alloc (.cells #[.bool s3,.slice j A c3,.bool s4,.slice E G c4] t2)=W /\
   Box W w.heap.size #[.bool s1,.slice e u c1,.bool s2,.slice C F c2] t1/\Box W (w.heap.size+1) #[.bool s3,.slice j A c3,.bool s4,.slice E G c4] t2/\Bl w W/\W.heap.size=w.heap.size+2:=by
 obtain⟨s1,e,u,c1,s2,C,F,c2,d1,rfl,R,X,L⟩:=ha.open;obtain⟨s3,j,A,c3,s4,E,G,c4,d2,rfl,U,Y,Q⟩:=hb.open;exact⟨s1,e,u,c1,s2,C,F,c2,s3,j,A,c3,s4,E,G,c4,rfl,rfl,R,U,ha,hb,bY w _ _ t1 t2⟩
theorem bG(va vb:Value)(x y:Rat)(k l:Nat)(w:World)(ha:aj w va x)(hb:aj w vb y)(L:Bd k x)(Q:Bd l y)(h1:k+l<=1000000):
 Calls prog 20 #[va,vb] w fun e w'=>e=.returned (.int .i64 (dc x y))/\Bl w w':=by
 obtain⟨s1,a1,n1,c1,s2,a2,n2,c2,s3,a3,n3,c3,s4,a4,n4,c4,rfl,rfl,i1,i3,ra,rb,W,hW,b1,b2,hB,hS⟩:=start2 w va vb x y ha hb 55 55;obtain⟨I1,I2,R1,R2,BX,BY,B1,R,u⟩:=η9 i1 i3 ra rb L Q b1 b2 hB;obtain⟨j,HW,sx,sy,ap,ar⟩:=η6 hS hW (L.num I) (Q.num I) (L.den I) (Q.den I);have au:Hid (Small (x.num*y.den)):=⟨k+l,h1,by rw[Int.natAbs_mul];exact Bd.pow_mul L.1 Q.2⟩;have av:Hid (Small (y.num*x.den)):=⟨k+l,h1,by rw[Int.natAbs_mul,show k+l=l+k from by omega];exact Bd.pow_mul Q.1 L.2⟩;obtain⟨x0,x1,x2,x3,x4⟩:=b1.four;obtain⟨y0,y1,y2,y3,y4⟩:=b2.four;have aa:k<=1000000:=I;have ab:l<=1000000:=I;clear ha hb i1 i3 ra rb L Q b1 b2 hB hS h1
 go_enter func20,ntmps20
 go_upto_region 1 with fail
 obtain⟨xb,an⟩:∃b,decide (x.den=1)=b:=ξ;obtain⟨yb,ao⟩:∃b,decide (y.den=1)=b:=ξ
 go_cut [10] from 5 to 11 (fun v wx=>v=.bool (xb&&yb)/\Hid (Bl W wx))
 case first =>
  go_wp2_with fail
  refine(fL _ x k _ (R1.o.below u.o) BX.o aa).mono ?_;rw[an];rintro e w1 ⟨rfl,E⟩;have G:=O E;clear E;cases xb
  ·go_wp2_with fail
   go_meet;exact⟨rfl,G⟩
  obtain⟨z0,z1,z2,z3,z4⟩:=(R.o.below G.o (ψ j.o)).four
  go_wp2_with fail
  refine(fL _ y l _ (R2.o.below (ae u.o G.o (ψ j.o))) BY.o ab).mono ?_;rw[ao];rintro e w2 ⟨rfl,F⟩;have C:Hid (Bl W w2):=ae G.o F ρ;clear F
  go_wp2_with fail
  go_meet;exact⟨rfl,C⟩
 case rest =>
  obtain⟨rfl,L0⟩:=hcut;obtain⟨w0,rfl⟩:=φ wc;cases hbb:xb&&yb
  ·have HC:Hid (dj (x.num*y.den) (y.num*x.den)=dc x y):=cmpR_def x y
   go_upto_region 3 with fail
   go_region_held3 (fun w'=>w'.cell? ⟨w.heap.size,0,none⟩=some (.bool s1)/\w'.cell? ⟨w.heap.size,1,none⟩=some (.slice a1 n1 c1)/\w'.cell? ⟨w.heap.size,2,none⟩=some (.bool s2)/\w'.cell? ⟨w.heap.size,3,none⟩=some (.slice a2 n2 c2)/\w'.cell? ⟨w.heap.size+1,0,none⟩=some (.bool s3)/\w'.cell? ⟨w.heap.size+1,1,none⟩=some (.slice a3 n3 c3)/\w'.cell? ⟨w.heap.size+1,2,none⟩=some (.bool s4)/\w'.cell? ⟨w.heap.size+1,3,none⟩=some (.slice a4 n4 c4))
    (first
     | with_reducible exact(iB B1.o R.o L5.o (ψ j.o) (ψ j.o))
     | with_reducible exact(iB B1.o R.o (Hid.o (by assumption)) (ψ j.o) (ψ j.o))
     | with_reducible exact(iB B1.o R.o L0.o.drew (ψ j.o) (ψ j.o)))
    (first
     | (have H:=L4.o;clear H;go_at_call 67;refine(fk _ _ (x.num*y.den) (y.num*x.den) _ X.o V4.o au.o av.o).mono ?_;rw[HC.o];rintro e w5 ⟨rfl,Y⟩
        have L5:Hid (Bl W w5):=ae L4.o Y ρ;clear Y)
     | (have H:=U.o;clear H;go_at_call 68;refine(fJ _ _ y.num x.den _ (I2.o.below (ae u.o U.o (ψ j.o))) V3.o sy.o ap.o).mono ?_;rintro e w4 ⟨⟨v4,rfl,ag⟩,J⟩
        have V4:=O ag;replace X:=O (X.o.below J);have L4:Hid (Bl W w4):=ae U.o J ρ;clear J ag)
     | (have H:=C.o;clear H;go_at_call 69;refine(eW _ x k _ (R1.o.below (ae u.o C.o (ψ j.o))) BX.o aa).mono ?_;rintro e w3 ⟨⟨v3,rfl,af⟩,A⟩
        have V3:=O af;replace X:=O (X.o.below A);have U:Hid (Bl W w3):=ae C.o A ρ;clear A af)
     | (have H:=G.o;clear H;go_at_call 68;refine(fJ _ _ x.num y.den _ (I1.o.below (ae u.o G.o (ψ j.o))) V1.o sx.o ar.o).mono ?_;rintro e w2 ⟨⟨v2,rfl,ad⟩,F⟩
        have X:=O ad;have C:Hid (Bl W w2):=ae G.o F ρ;clear F ad)
     | (go_at_call 69;refine(eW _ y l _ (R2.o.below (ae u.o L0.o.drew (ψ j.o))) BY.o ab).mono ?_;rintro e w1 ⟨⟨v1,rfl,ac⟩,E⟩
        have V1:=O ac;have G:Hid (Bl W w1):=ae L0.o.drew E ρ;clear E ac))
   go_wp2;exact bodyPost_ret (results_tmp results20 _ _ _) rfl ⟨rfl,ae u.o L5.o (ψ j.o)⟩
  ·have C:=L0
   simp only[Bool.and_eq_true]at hbb;have hx:x.den=1:=of_decide_eq_true (an.trans hbb.1);have hy:y.den=1:=of_decide_eq_true (ao.trans hbb.2);have hc:dj x.num y.num=dc x y:=by have:=cmpR_def x y;rw[hx,hy]at this;simpa[dc]using this
   have HC:=O hc;obtain⟨u0,u1,u2,u3,u4⟩:=(R.o.below C.o (ψ j.o)).four;obtain⟨v0,v1,v2,v3,v4⟩:=(B1.o.below C.o (ψ j.o)).four
   go_wp2_with fail
   refine(fk _ _ x.num y.num _ (I1.o.below (ae u.o C.o (ψ j.o))) (I2.o.below (ae u.o C.o (ψ j.o))) sx.o sy.o).mono ?_;rw[HC.o];rintro e w3 ⟨rfl,A⟩;have U:=O (ae C.o A ρ);clear A;go_wp2;exact bodyPost_ret (results_tmp results20 _ _ _) rfl ⟨rfl,ae u.o U.o (ψ j.o)⟩
theorem keep2{W w':World}{n g1:Nat}{a b:Value}{t1:TypeId}(b1:Box W g1 #[a,b] t1)(h:Below n W w')(e:g1<n):
 w'.cell? ⟨g1,0,.none⟩=.some a/\w'.cell? ⟨g1,1,.none⟩=.some b:=⟨(b1.below h e).cell 0,(b1.below h e).cell 1⟩
theorem cmpZ_neg{y c:Int}(h:dj y 0=c)(hc:c<0):y<0:=by
 unfold dj at h
 split at h
 ·assumption
 ·split at h<;>omega
def RedI(w X:World)(s1:Bool)(a1:Option Addr)(n1 c1:Nat)(s2:Bool)(a2:Option Addr)(n2 c2:Nat)(p q:Int):Prop:=
 Box X w.heap.size #[.bool s1,.slice a1 n1 c1] 53/\Box X (w.heap.size+1) #[.bool s2,.slice a2 n2 c2] 53/\Box X (w.heap.size+2) #[.bool false,.slice none 0 0,.bool false,.slice none 0 0] 55 /\
 aU X (.agg #[.bool s1,.slice a1 n1 c1]) p/\aU X (.agg #[.bool s2,.slice a2 n2 c2]) q/\Bl w X
theorem redI_set{w X:World}{s1 s2 s3 s4:Bool}{F G u C:Option Addr}{Q c1 R c2 A c3 E c4:Nat}{p q:Int}(b1:Box X w.heap.size #[.bool s1,.slice F Q c1] 53)(b2:Box X (w.heap.size+1) #[.bool s2,.slice G R c2] 53)(H:Box X (w.heap.size+2) #[.bool false,.slice none 0 0,.bool false,.slice none 0 0] 55)(J:aU X (.agg #[.bool s3,.slice u A c3]) p)(L:aU X (.agg #[.bool s4,.slice C E c4]) q)(hb:Bl w X):
 RedI w ((((X.setCell ⟨w.heap.size,0,none⟩ (.bool s3)).setCell ⟨w.heap.size,1,none⟩ (.slice u A c3)).setCell ⟨w.heap.size+1,0,none⟩ (.bool s4)).setCell ⟨w.heap.size+1,1,none⟩ (.slice C E c4)) s3 u A c3 s4 C E c4 p q:=by
 have e:=b2.other2 (g':=w.heap.size) (i:=0) (j:=1) I (.bool s3) (.slice u A c3);exact⟨(b1.set2 (.bool s3) (.slice u A c3)).other2 I _ _,e.set2 (.bool s4) (.slice C E c4),(H.other2 I _ _).other2 I _ _,
  (J.store2 b1 _ _).store2 e _ _,(L.store2 b1 _ _).store2 e _ _,aS (aS hb ρ _ _) I _ _⟩
theorem iL(va vb:Value)(x y:Int)(w:World)(ha:aU w va x)(hb:aU w vb y)(sx:Small x)(sy:Small y)(hy:y≠0):
 Calls prog 73 #[va,vb] w fun e w'=>dO w' e (Rat.divInt x y)/\Bl w w':=by
 obtain⟨I1,I2⟩:=η2 ha hb;obtain⟨s1,a1,n1,c1,d1,rfl,-⟩:=ha;obtain⟨s2,a2,n2,c2,d2,rfl,-⟩:=hb;obtain⟨W,hW,b1,b2,b3,hB,hS⟩:=bX w #[.bool s1,.slice a1 n1 c1] #[.bool s2,.slice a2 n2 c2] #[.bool false,.slice none 0 0,.bool false,.slice none 0 0] 53 53 55;obtain⟨B1,B2,B3,A,u⟩:=η5 b1 b2 b3 hB hS;obtain⟨x0,x1,x2,x3⟩:=b1.two;obtain⟨y0,y1,y2,y3⟩:=b2.two;obtain⟨sx,sy⟩:=η2 sx sy;clear b1 b2 b3 hB hS
 go_enter func73,ntmps73
 go_upto_if 8 with fail
 refine(fG _ y _ (I2.o.below A.o) sy.o).mono ?_;obtain⟨c,hc⟩:=χ (dj y 0);rw[hc];have HC:=O hc;rintro e w0 ⟨rfl,ap⟩;have H:=O ap;clear ap hW x0 x1 x2 x3 y0 y1 y2 y3 hc
 go_upto_if 8 with fail
 go_cut [] from 5 to 36 (fun wx=>∃s1 a1 n1 c1 s2 a2 n2 c2,RedI w wx s1 a1 n1 c1 s2 a2 n2 c2 (y.sign*x) y.natAbs)
 case first =>
  by_cases R:c<0
  ·have bg:decide (c<0)=true:=decide_eq_true R
   obtain⟨x0,x1,x2,x3⟩:=(B1.o.below H.o (ψ u.o)).two;obtain⟨y0,y1,y2,y3⟩:=(B2.o.below H.o (ψ u.o)).two
   go_wp2_with fail
   go_region_with (first
    | (have _g:=L1.o;clear _g;go_at_call 111;refine(uJ _ y _ (I2.o.below (ae A.o L1.o (ψ u.o))) sy.o).mono ?_;rintro e w2 ⟨⟨v2,rfl,a8⟩,ab⟩
       obtain⟨V2,V3⟩:=η2 a8 (V1.o.below ab);have L2:Hid (Bl W w2):=ae L1.o ab ρ;obtain⟨s4,a4,n4,c4,d4,rfl,-⟩:=a8;obtain⟨x0,x1,x2,x3⟩:=(B1.o.below L2.o (ψ u.o)).two;obtain⟨y0,y1,y2,y3⟩:=(B2.o.below L2.o (ψ u.o)).two;clear ab)
    | (go_at_call 111;refine(uJ _ x _ (I1.o.below (ae A.o H.o.drew (ψ u.o))) sx.o).mono ?_;rintro e w1 ⟨⟨v1,rfl,U⟩,L⟩
       have V1:=O U;have L1:Hid (Bl W w1):=ae H.o.drew L ρ;obtain⟨s3,a3,n3,c3,d3,rfl,-⟩:=U;obtain⟨x0,x1,x2,x3⟩:=(B1.o.below L1.o (ψ u.o)).two;obtain⟨y0,y1,y2,y3⟩:=(B2.o.below L1.o (ψ u.o)).two;clear L))
   all_goals
    have ac:y<0:=cmpZ_neg HC.o R
    go_wp2_with fail
    go_meet;refine⟨s3,a3,n3,c3,s4,a4,n4,c4,redI_set (B1.o.below L2.o (ψ u.o)) (B2.o.below L2.o (ψ u.o)) (B3.o.below L2.o (ψ u.o)) ?_ ?_ (ae A.o L2.o (ψ u.o))⟩
    ·rw[Int.sign_eq_neg_one_of_neg ac,Int.neg_one_mul];exact V3.o
    ·rw[show((y.natAbs:Nat):Int)=-y from by omega];exact V2.o
  ·have bg:decide (c<0)=false:=decide_eq_false R
   have ac:0<y:=by
    have:=HC.o
    rcases Int.lt_trichotomy y 0 with h|h|h
    ·unfold dj at this;rw[if_pos h]at this;omega
    ·exact absurd h hy
    ·exact h
   go_wp2_with fail
   go_meet;refine⟨s1,a1,n1,c1,s2,a2,n2,c2,B1.o.below H.o (ψ u.o),B2.o.below H.o (ψ u.o),B3.o.below H.o (ψ u.o),?_,?_,ae A.o H.o (ψ u.o)⟩
   ·rw[Int.sign_eq_one_of_pos ac,Int.one_mul];exact I1.o.below (ae A.o H.o (ψ u.o))
   ·rw[show((y.natAbs:Nat):Int)=y from by omega];exact I2.o.below (ae A.o H.o (ψ u.o))
 case rest =>
  clear HC H B1 B2 B3 A u I1 I2;obtain⟨s1,a1,n1,c1,s2,a2,n2,c2,k1,k2,k3,j1,j2,lb⟩:=hcut;have sp:Hid (Small (y.sign*x)):=by obtain⟨k,h1,h2⟩:=sx.o;exact⟨k,h1,by rw[Int.natAbs_mul,Int.natAbs_sign_of_ne_zero hy,Nat.one_mul];exact h2⟩
  have sq:Hid (Small (y.natAbs:Int)):=by obtain⟨k,h1,h2⟩:=sy.o;exact⟨k,h1,by rw[Int.natAbs_natCast];exact h2⟩
  obtain⟨p,hp⟩:=χ (y.sign*x);have hg:Int.gcd p (y.natAbs:Int)=Int.gcd y x:=by rw[<-hp];simp[Int.gcd,Int.natAbs_mul,Int.natAbs_sign_of_ne_zero hy,Nat.gcd_comm]
  have a0:(0:Int)<(Int.gcd y x:Nat):=by have:=Int.gcd_pos_of_ne_zero_left x hy;omega
  have aw:((Int.gcd y x:Nat):Int)∣p:=by rw[<-hg];exact Int.gcd_dvd_left ..
  have ay:((Int.gcd y x:Nat):Int)∣(y.natAbs:Int):=by rw[<-hg];exact Int.gcd_dvd_right ..
  have F:(Rat.divInt x y).num=p / (Int.gcd y x:Nat):=by rw[Rat.num_divInt,hp]
  have E:((Rat.divInt x y).den:Int)=(y.natAbs:Int) / (Int.gcd y x:Nat):=by rw[Rat.den_divInt,if_neg hy];simp
  have sg:Hid (Small (Int.gcd y x:Nat)):=by
   obtain⟨k,h1,h2⟩:=sy.o;exact⟨k,h1,Nat.lt_of_le_of_lt (by rw[Int.natAbs_natCast];exact Nat.le_of_dvd I (Int.natAbs_dvd_natAbs.2 (Int.gcd_dvd_left ..))) h2⟩
  generalize Int.gcd y x=G at *;obtain⟨GP,D1,D2,HN,ad,HG,K1,K2,K3⟩:=η9 a0 aw ay F E hg k1 k2 k3;obtain⟨J1,J2,H⟩:=η3 j1 j2 lb;rw[hp]at sp;rw[hp]at J1;generalize(y.natAbs:Int)=q at *;obtain⟨x0,x1,x2,x3⟩:=k1.two;obtain⟨y0,y1,y2,y3⟩:=k2.two;clear a0 aw ay F E hg k1 k2 k3 j1 j2 lb hp
  go_wp2_with fail
  refine(pD _ _ p q _ J1.o J2.o sp.o sq.o).mono ?_;rw[HG.o];rintro e w1 ⟨⟨v1,rfl,U⟩,L⟩;obtain⟨V1,L1⟩:=η2 U L;obtain⟨s5,a5,n5,c5,d5,rfl,-⟩:=U;clear L
  go_wp2_with fail
  obtain⟨X,hX⟩:=χ (w1.alloc (.cells #[.bool s5,.slice a5 n5 c5] 53));obtain⟨g5,Q⟩:∃g,g=w1.heap.size:=⟨_,rfl⟩;have ag:Bl wc X:=by rw[<-hX];exact L1.o.alloc (L1.o.size) _
  have af:Box X g5 #[.bool s5,.slice a5 n5 c5] 53:=by rw[<-hX];exact Box.new _ _ _ _ Q
  have ao:X.heap.size=g5+1:=by rw[<-hX,Q];simp
  have az:wc.heap.size<=g5:=by rw[Q];exact L1.o.size
  have an:aU X (.agg #[.bool s5,.slice a5 n5 c5]) G:=by rw[<-hX];exact V1.o.below (β.alloc ρ _)
  have HX:Hid (w1.alloc (.cells #[.bool s5,.slice a5 n5 c5] 53)=X):=hX;rw[HX.o];rw[<-Q];obtain⟨L2,B5,HS,aa,VG⟩:=η5 ag af ao az an;have LX:Hid (Bl X X):=Below.refl _ _;obtain⟨c,hc⟩:=χ (dj G 1);have HC:=O hc;clear HX hX ag af ao az an Q x0 x1 x2 x3 y0 y1 y2 y3 hc
  go_region_held3 (fun w'=>w'.cell? ⟨g5,0,none⟩=some (.bool s5)/\w'.cell? ⟨g5,1,none⟩=some (.slice a5 n5 c5))
   (first
    | with_reducible exact(keep2 B5.o L4.o (ψ HS.o))
    | with_reducible exact(keep2 B5.o L3.o (ψ HS.o))
    | with_reducible exact(keep2 B5.o LX.o.drew (ψ HS.o)))
   (first
    | (have _g:=L3.o;clear _g;go_at_call 67;refine(fk _ _ (G:Int) 1 _ (VG.o.below L3.o) V3.o sg.o sE).mono ?_;rw[HC.o];rintro e w4 ⟨rfl,au⟩
       have L4:Hid (Bl X w4):=ae L3.o au ρ;clear au)
    | (go_at_call 103;refine(mD _).mono ?_;rintro e w3 ⟨⟨v3,rfl,a9⟩,ar⟩
       have V3:=O a9;have L3:Hid (Bl X w3):=ae β.drew ar ρ;clear ar a9))
  obtain⟨LL,G5⟩:=η2 (L2.o.trans (L4.o.mono L2.o.size)) (B5.o.below L4.o (ψ HS.o));obtain⟨G1,G2,G3,W1,W2,W5,WL⟩:=η7 (K1.o.to LL.o) (K2.o.to LL.o) (K3.o.to LL.o) (J1.o.below LL.o) (J2.o.below LL.o) (VG.o.below L4.o) (ae H.o LL.o (ψ K3.o.lt));obtain⟨x0,x1,x2,x3⟩:=G1.o.two;obtain⟨y0,y1,y2,y3⟩:=G2.o.two;obtain⟨z0,z1,z2,z3⟩:=G5.o.two;obtain⟨u0,u1,u2,u3,u4⟩:=G3.o.four;by_cases av:c=0
  ·obtain rfl:c=0:=av
   have be:G=1:=by have:=uk.1 HC.o;omega
   subst be;go_wp2;have F:=HN.o;have E:=ad.o;rw[Int.natCast_one,Int.ediv_one]at F E;exact aL results73 (w.heap.size+2) (G3.o.set4 (.bool s1) (.slice a1 n1 c1) (.bool s2) (.slice a2 n2 c2)) _ rfl underlying55 rfl aY rfl
    ⟨⟨_,rfl,aj.store4 (q:=Rat.divInt x y) ⟨_,_,_,_,_,_,_,_,q,rfl,by rw[F];exact W1.o,W2.o,Or.inl E.symm⟩ G3.o _ _ _ _⟩,aR WL.o I _ _ _ _⟩
  ·have bl:(c == 0)=false:=by rw[beq_eq_false_iff_ne];exact av
   go_wp2_with fail
   refine(m9 _ _ p G _ W1.o W5.o sp.o sg.o GP.o D1.o).mono ?_;rintro e w5 ⟨⟨v5,u5,rfl,ba⟩,C⟩;obtain⟨V5,M1,M2,M3,M5,N2,N5,NL⟩:=η8 ba (G1.o.to C) (G2.o.to C) (G3.o.to C) (G5.o.to C) (W2.o.below C) (W5.o.below C) (ae WL.o C ρ);have bf:g5≠w.heap.size:=by have:=K3.o.lt;have:=aa.o;omega
   have bi:g5≠w.heap.size+1:=by have:=K3.o.lt;have:=aa.o;omega
   have bk:g5≠w.heap.size+2:=by have:=K3.o.lt;have:=aa.o;omega
   obtain⟨s6,a6,n6,c6,d6,rfl,-⟩:=ba;clear C x0 x1 x2 x3 y0 y1 y2 y3 z0 z1 z2 z3 u0 u1 u2 u3 u4 G1 G2 G3 G5 W1 W2 W5 WL;obtain⟨x0,x1,x2,x3⟩:=M1.o.two;obtain⟨y0,y1,y2,y3⟩:=M2.o.two;obtain⟨z0,z1,z2,z3⟩:=M5.o.two;obtain⟨Y,hY⟩:=χ ((w5.setCell ⟨w.heap.size,0,none⟩ (.bool s6)).setCell ⟨w.heap.size,1,none⟩ (.slice a6 n6 c6));have t1:Box Y w.heap.size #[.bool s6,.slice a6 n6 c6] 53:=hY▸M1.o.set2 _ _;have t2:Box Y (w.heap.size+1) #[.bool s2,.slice a2 n2 c2] 53:=hY▸M2.o.other2 I _ _;have t3:Box Y (w.heap.size+2) #[.bool false,.slice none 0 0,.bool false,.slice none 0 0] 55:=hY▸M3.o.other2 I _ _;have t5:Box Y g5 #[.bool s5,.slice a5 n5 c5] 53:=hY▸M5.o.other2 bf _ _;have r1:aU Y (.agg #[.bool s6,.slice a6 n6 c6]) (p / G):=hY▸V5.o.store2 M1.o _ _;have r2:aU Y (.agg #[.bool s2,.slice a2 n2 c2]) q:=hY▸N2.o.store2 M1.o _ _;have r5:aU Y (.agg #[.bool s5,.slice a5 n5 c5]) G:=hY▸N5.o.store2 M1.o _ _;have tl:Bl w Y:=hY▸aS NL.o ρ _ _;obtain⟨HY,T1,T2,T3,T5,R1,R2,R5,TL⟩:=η9 hY t1 t2 t3 t5 r1 r2 r5 tl;clear hY t1 t2 t3 t5 r1 r2 r5 tl
   go_wp2_with fail
   rw[HY.o];refine(m9 _ _ q G _ R2.o R5.o sq.o sg.o GP.o D2.o).mono ?_;rintro e w6 ⟨⟨v6,bm,rfl,bc⟩,J⟩;obtain⟨V6,E1,E2,E3,E5,EL⟩:=η6 bc (T1.o.to J) (T2.o.to J) (T3.o.to J) (R1.o.below J) (ae TL.o J ρ);obtain⟨s7,a7,n7,c7,d7,rfl,-⟩:=bc;clear J x0 x1 x2 x3 y0 y1 y2 y3 z0 z1 z2 z3 HY T1 T2 T3 T5 R1 R2 R5 TL M1 M2 M3 M5;obtain⟨x0,x1,x2,x3⟩:=E1.o.two;obtain⟨y0,y1,y2,y3⟩:=E2.o.two;obtain⟨z0,z1,z2,z3,z4⟩:=E3.o.four;go_wp2;have b3:=E3.o.other2 (g':=w.heap.size+1) (i:=0) (j:=1) I (.bool s7) (.slice a7 n7 c7);exact aL results73 (w.heap.size+2) (b3.set4 (.bool s6) (.slice a6 n6 c6) (.bool s7) (.slice a7 n7 c7)) _ rfl underlying55 rfl aY rfl
    ⟨⟨_,rfl,aj.store4 (q:=Rat.divInt x y) ⟨_,_,_,_,_,_,_,_,q / G,rfl,by rw[HN.o];exact E5.o.store2 E2.o _ _,V6.o.store2 E2.o _ _,Or.inl ad.o.symm⟩ b3 _ _ _ _⟩,aR (aS EL.o I _ _) I _ _ _ _⟩
theorem lW(z:Int):Rat.divInt z 1=(z:Rat):=by
 refine Rat.ext ?_ ?_
 ·rw[Rat.num_divInt];simp
 ·rw[Rat.den_divInt];simp
theorem tK(w:World)(H J:Value)(x y:Rat)(ha:aj w H x)(hb:aj w J y)(t1 t2 t3:TypeId):
 ∃s1 e u c1 s2 C F c2 s3 j A c3 s4 E G c4,H=.agg #[.bool s1,.slice e u c1,.bool s2,.slice C F c2]/\J=.agg #[.bool s3,.slice j A c3,.bool s4,.slice E G c4] /\
  aU w (.agg #[.bool s1,.slice e u c1]) x.num/\aU w (.agg #[.bool s3,.slice j A c3]) y.num /\
  aj w (.agg #[.bool s1,.slice e u c1,.bool s2,.slice C F c2]) x/\aj w (.agg #[.bool s3,.slice j A c3,.bool s4,.slice E G c4]) y /\
  ∃W,((w.alloc (.cells #[.bool s1,.slice e u c1,.bool s2,.slice C F c2] t1)).alloc (.cells #[.bool s3,.slice j A c3,.bool s4,.slice E G c4] t2)).alloc (.cells #[.bool false,.slice none 0 0,.bool false,.slice none 0 0] t3)=W /\
   Box W w.heap.size #[.bool s1,.slice e u c1,.bool s2,.slice C F c2] t1/\Box W (w.heap.size+1) #[.bool s3,.slice j A c3,.bool s4,.slice E G c4] t2/\Box W (w.heap.size+2) #[.bool false,.slice none 0 0,.bool false,.slice none 0 0] t3/\Bl w W/\W.heap.size=w.heap.size+3:=by
 obtain⟨s1,e,u,c1,s2,C,F,c2,d1,rfl,R,X,L⟩:=ha.open;obtain⟨s3,j,A,c3,s4,E,G,c4,d2,rfl,U,Y,Q⟩:=hb.open;exact⟨s1,e,u,c1,s2,C,F,c2,s3,j,A,c3,s4,E,G,c4,rfl,rfl,R,U,ha,hb,bX w _ _ _ t1 t2 t3⟩
theorem iH(va vb:Value)(x y:Rat)(k l:Nat)(w:World)(ha:aj w va x)(hb:aj w vb y)(hk:Bd k x)(hl:Bd l y)(h1:k+l<1000000):
 Calls prog 25 #[va,vb] w fun e w'=>dO w' e (x+y)/\Bl w w':=by
 obtain⟨s1,a1,n1,c1,s2,a2,n2,c2,s3,a3,n3,c3,s4,a4,n4,c4,rfl,rfl,i1,i3,ra,rb,W,hW,b1,b2,b3,hB,hS⟩:=tK w va vb x y ha hb 55 55 55;obtain⟨I1,I2,R1,R2,BX,BY,B1,B2,B3⟩:=η9 i1 i3 ra rb hk hl b1 b2 b3;obtain⟨u,j,HW,sx,sy,a8,a9⟩:=η7 hB hS hW (hk.num I) (hl.num I) (hk.den I) (hl.den I);have hq:((x.den:Int)*y.den:Int)≠0:=by have h1:=x.den_pos;have h2:=y.den_pos;have:=Nat.mul_pos h1 h2;rw[<-Int.natCast_mul];omega
 have af:((x.den:Int)*y.den:Int).natAbs<B ^ (k+l+1):=by
  rw[Int.natAbs_mul];exact Nat.lt_of_lt_of_le (Bd.pow_mul hk.2 hl.2) (Nat.pow_le_pow_right (by unfold B;omega) I)
 have sq:Hid (Small ((x.den:Int)*y.den)):=⟨k+l+1,by omega,af⟩;have az:(x.num*y.den).natAbs<B ^ (k+l):=by rw[Int.natAbs_mul];exact Bd.pow_mul hk.1 hl.2
 have a7:(y.num*x.den).natAbs<B ^ (k+l):=by rw[Int.natAbs_mul,show k+l=l+k from by omega];exact Bd.pow_mul hl.1 hk.2
 have ba:Hid (Small (x.num*y.den)):=⟨k+l,by omega,az⟩;have bc:Hid (Small (y.num*x.den)):=⟨k+l,by omega,a7⟩
 have sp:Hid (Small (x.num*y.den+y.num*x.den)):=⟨k+l+1,by omega,by
  have h4:B ^ (k+l+1)=B ^ (k+l)*B:=Nat.pow_succ ..;have h5:B ^ (k+l)*2<=B ^ (k+l)*B:=Nat.mul_le_mul_left _ (by unfold B;omega);exact Nat.lt_of_le_of_lt (Int.natAbs_add_le _ _) I⟩
 clear az a7;have HC:Hid (Rat.divInt (x.num*y.den+y.num*x.den) ((x.den:Int)*y.den)=x+y):=by
  unfold Hid;rw[lZ];simp
 obtain⟨x0,x1,x2,x3,x4⟩:=b1.four;obtain⟨y0,y1,y2,y3,y4⟩:=b2.four;have aa:k<=1000000:=I;have ab:l<=1000000:=I;clear ha hb i1 i3 ra rb hk hl b1 b2 b3 hB hS h1 af
 go_enter func25,ntmps25
 go_upto_region 1 with fail
 obtain⟨xb,ay⟩:∃b,decide (x.den=1)=b:=ξ;obtain⟨yb,a0⟩:∃b,decide (y.den=1)=b:=ξ
 go_cut [10] from 5 to 11 (fun v wx=>v=.bool (xb&&yb)/\Hid (Bl W wx))
 case first =>
  go_wp2_with fail
  refine(fL _ x k _ (R1.o.below u.o) BX.o aa).mono ?_;rw[ay];rintro e w1 ⟨rfl,F⟩;have L:=O F;clear F;cases xb
  ·go_wp2_with fail
   go_meet;exact⟨rfl,L⟩
  obtain⟨z0,z1,z2,z3,z4⟩:=(B2.o.below L.o (ψ j.o)).four
  go_wp2_with fail
  refine(fL _ y l _ (R2.o.below (ae u.o L.o (ψ j.o))) BY.o ab).mono ?_;rw[a0];rintro e w2 ⟨rfl,G⟩;have E:Hid (Bl W w2):=ae L.o G ρ;clear G
  go_wp2_with fail
  go_meet;exact⟨rfl,E⟩
 case rest =>
  obtain⟨rfl,L0⟩:=hcut;obtain⟨w0,rfl⟩:=φ wc;cases hbb:xb&&yb
  ·go_upto_region 3 with fail
   go_region_held3 (fun w'=>w'.cell? ⟨w.heap.size,0,none⟩=some (.bool s1)/\w'.cell? ⟨w.heap.size,1,none⟩=some (.slice a1 n1 c1)/\w'.cell? ⟨w.heap.size,2,none⟩=some (.bool s2)/\w'.cell? ⟨w.heap.size,3,none⟩=some (.slice a2 n2 c2)/\w'.cell? ⟨w.heap.size+1,0,none⟩=some (.bool s3)/\w'.cell? ⟨w.heap.size+1,1,none⟩=some (.slice a3 n3 c3)/\w'.cell? ⟨w.heap.size+1,2,none⟩=some (.bool s4)/\w'.cell? ⟨w.heap.size+1,3,none⟩=some (.slice a4 n4 c4))
    (first
     | with_reducible exact(jG B1.o B2.o L9.o (ψ j.o) (ψ j.o) I I _ _ _ _)
     | with_reducible exact(iB B1.o B2.o (Hid.o (by assumption)) (ψ j.o) (ψ j.o))
     | with_reducible exact(iB B1.o B2.o L0.o.drew (ψ j.o) (ψ j.o)))
    (first
     | (have A:=L8.o;clear A;go_at_call 73;refine(iL _ _ (x.num*y.den+y.num*x.den) ((x.den:Int)*y.den) _ R.o V8.o sp.o sq.o hq).mono ?_;rintro e w9 ⟨⟨v9,rfl,aw⟩,ad⟩
        have V9:=O aw;have L9:Hid (Bl W w9):=ae L8.o ad ρ;obtain⟨s5,a5,n5,c5,s6,a6,n6,c6,d5,rfl,-⟩:=aw;obtain⟨z0,z1,z2,z3,z4⟩:=(B3.o.below L9.o (ψ j.o)).four;clear ad)
     | (have A:=L7.o;clear A;go_at_call 68;refine(fJ _ _ (x.den:Int) y.den _ V6.o V7.o a8.o a9.o).mono ?_;rintro e w8 ⟨⟨v8,rfl,av⟩,Y⟩
        have V8:=O av;replace R:=O (R.o.below Y);have L8:Hid (Bl W w8):=ae L7.o Y ρ;clear Y av)
     | (have A:=L6.o;clear A;go_at_call 69;refine(eW _ y l _ (R2.o.below (ae u.o L6.o (ψ j.o))) BY.o ab).mono ?_;rintro e w7 ⟨⟨v7,rfl,au⟩,J⟩
        have V7:=O au;replace R:=O (R.o.below J);replace V6:=O (V6.o.below J);have L7:Hid (Bl W w7):=ae L6.o J ρ;clear J au)
     | (have A:=L5.o;clear A;go_at_call 69;refine(eW _ x k _ (R1.o.below (ae u.o L5.o (ψ j.o))) BX.o aa).mono ?_;rintro e w6 ⟨⟨v6,rfl,ar⟩,X⟩
        have V6:=O ar;replace R:=O (R.o.below X);have L6:Hid (Bl W w6):=ae L5.o X ρ;clear X ar)
     | (have A:=L4.o;clear A;go_at_call 72;refine(Add_any _ _ (x.num*y.den) (y.num*x.den) _ V2.o V4.o ba.o bc.o).mono ?_;rintro e w5 ⟨⟨v5,rfl,ap⟩,ac⟩
        have R:=O ap;have L5:Hid (Bl W w5):=ae L4.o ac ρ;clear ac ap)
     | (have A:=Q.o;clear A;go_at_call 68;refine(fJ _ _ y.num x.den _ (I2.o.below (ae u.o Q.o (ψ j.o))) V3.o sy.o a8.o).mono ?_;rintro e w4 ⟨⟨v4,rfl,ao⟩,U⟩
        have V4:=O ao;replace V2:=O (V2.o.below U);have L4:Hid (Bl W w4):=ae Q.o U ρ;clear U ao)
     | (have A:=E.o;clear A;go_at_call 69;refine(eW _ x k _ (R1.o.below (ae u.o E.o (ψ j.o))) BX.o aa).mono ?_;rintro e w3 ⟨⟨v3,rfl,H⟩,C⟩
        have V3:=O H;replace V2:=O (V2.o.below C);have Q:Hid (Bl W w3):=ae E.o C ρ;clear C H)
     | (have A:=L.o;clear A;go_at_call 68;refine(fJ _ _ x.num y.den _ (I1.o.below (ae u.o L.o (ψ j.o))) V1.o sx.o a9.o).mono ?_;rintro e w2 ⟨⟨v2,rfl,an⟩,G⟩
        have V2:=O an;have E:Hid (Bl W w2):=ae L.o G ρ;clear G an)
     | (go_at_call 69;refine(eW _ y l _ (R2.o.below (ae u.o L0.o.drew (ψ j.o))) BY.o ab).mono ?_;rintro e w1 ⟨⟨v1,rfl,ag⟩,F⟩
        have V1:=O ag;have L:Hid (Bl W w1):=ae L0.o.drew F ρ;clear F ag))
   go_wp2;have b4:=B3.o.below L9.o (ψ j.o)
   exact aL results25 (w.heap.size+2) (b4.set4 (.bool s5) (.slice a5 n5 c5) (.bool s6) (.slice a6 n6 c6)) _ rfl underlying55 rfl aY rfl
    ⟨⟨_,rfl,by have:=V9.o;rw[HC.o]at this;exact this.store4 b4 _ _ _ _⟩,aR (ae u.o L9.o (ψ j.o)) I _ _ _ _⟩
  ·have E:=L0
   simp only[Bool.and_eq_true]at hbb;have hx:x.den=1:=of_decide_eq_true (ay.trans hbb.1);have hy:y.den=1:=of_decide_eq_true (a0.trans hbb.2);have hc:((x.num+y.num:Int):Rat)=x+y:=by
    rw[lZ,hx,hy,<-lW];simp
   have HC:=O hc;obtain⟨u0,u1,u2,u3,u4⟩:=(B2.o.below E.o (ψ j.o)).four;obtain⟨v0,v1,v2,v3,v4⟩:=(B1.o.below E.o (ψ j.o)).four
   go_wp2_with fail
   refine(Add_any _ _ x.num y.num _ (I1.o.below (ae u.o E.o (ψ j.o))) (I2.o.below (ae u.o E.o (ψ j.o))) sx.o sy.o).mono ?_;rintro e w3 ⟨⟨v3,rfl,H⟩,C⟩;obtain⟨V3,Q⟩:=η2 H (ae E.o C ρ);obtain⟨s5,a5,n5,c5,d5,rfl,-⟩:=H;obtain⟨t0,t1,t2,t3,t4⟩:=(B3.o.below Q.o (ψ j.o)).four;clear C;go_wp2;have b4:=B3.o.below Q.o (ψ j.o);exact aL results25 (w.heap.size+2) (b4.set4 (.bool s5) (.slice a5 n5 c5) (.bool false) (.slice none 0 0)) _ rfl underlying55 rfl aY rfl
    ⟨⟨_,rfl,by rw[<-HC.o];exact(kW V3.o).store4 b4 _ _ _ _⟩,aR (ae u.o Q.o (ψ j.o)) I _ _ _ _⟩
theorem dS(va vb:Value)(x y:Rat)(k l:Nat)(w:World)(ha:aj w va x)(hb:aj w vb y)(U:Bd k x)(X:Bd l y)(h1:k+l<1000000):
 Calls prog 31 #[va,vb] w fun e w'=>dO w' e (x*y)/\Bl w w':=by
 obtain⟨s1,a1,n1,c1,s2,a2,n2,c2,s3,a3,n3,c3,s4,a4,n4,c4,rfl,rfl,i1,i3,ra,rb,W,hW,b1,b2,b3,hB,hS⟩:=tK w va vb x y ha hb 55 55 55;obtain⟨I1,I2,R1,R2,BX,BY,B1,Y,B3⟩:=η9 i1 i3 ra rb U X b1 b2 b3;obtain⟨u,j,HW,sx,sy,au,av⟩:=η7 hB hS hW (U.num I) (X.num I) (U.den I) (X.den I);have hq:((x.den:Int)*y.den:Int)≠0:=by have h1:=x.den_pos;have h2:=y.den_pos;have:=Nat.mul_pos h1 h2;rw[<-Int.natCast_mul];omega
 have ad:((x.den:Int)*y.den:Int).natAbs<B ^ (k+l+1):=by
  rw[Int.natAbs_mul];exact Nat.lt_of_lt_of_le (Bd.pow_mul U.2 X.2) (Nat.pow_le_pow_right (by unfold B;omega) I)
 have sq:Hid (Small ((x.den:Int)*y.den)):=⟨k+l+1,by omega,ad⟩;have sp:Hid (Small (x.num*y.num)):=⟨k+l,by omega,by rw[Int.natAbs_mul];exact Bd.pow_mul U.1 X.1⟩;have HC:Hid (Rat.divInt (x.num*y.num) ((x.den:Int)*y.den)=x*y):=by
  unfold Hid;rw[lM];simp
 obtain⟨x0,x1,x2,x3,x4⟩:=b1.four;obtain⟨y0,y1,y2,y3,y4⟩:=b2.four;have ab:k<=1000000:=I;have ac:l<=1000000:=I;clear ha hb i1 i3 ra rb U X b1 b2 b3 hB hS h1 ad
 go_enter func31,ntmps31
 go_upto_region 1 with fail
 obtain⟨xb,ap⟩:∃b,decide (x.den=1)=b:=ξ;obtain⟨yb,ar⟩:∃b,decide (y.den=1)=b:=ξ
 go_cut [10] from 5 to 11 (fun v wx=>v=.bool (xb&&yb)/\Hid (Bl W wx))
 case first =>
  go_wp2_with fail
  refine(fL _ x k _ (R1.o.below u.o) BX.o ab).mono ?_;rw[ap];rintro e w1 ⟨rfl,F⟩;have H:=O F;clear F;cases xb
  ·go_wp2_with fail
   go_meet;exact⟨rfl,H⟩
  obtain⟨z0,z1,z2,z3,z4⟩:=(Y.o.below H.o (ψ j.o)).four
  go_wp2_with fail
  refine(fL _ y l _ (R2.o.below (ae u.o H.o (ψ j.o))) BY.o ac).mono ?_;rw[ar];rintro e w2 ⟨rfl,C⟩;have E:Hid (Bl W w2):=ae H.o C ρ;clear C
  go_wp2_with fail
  go_meet;exact⟨rfl,E⟩
 case rest =>
  obtain⟨rfl,L0⟩:=hcut;obtain⟨w0,rfl⟩:=φ wc;cases hbb:xb&&yb
  ·go_upto_region 3 with fail
   go_region_held3 (fun w'=>w'.cell? ⟨w.heap.size,0,none⟩=some (.bool s1)/\w'.cell? ⟨w.heap.size,1,none⟩=some (.slice a1 n1 c1)/\w'.cell? ⟨w.heap.size,2,none⟩=some (.bool s2)/\w'.cell? ⟨w.heap.size,3,none⟩=some (.slice a2 n2 c2)/\w'.cell? ⟨w.heap.size+1,0,none⟩=some (.bool s3)/\w'.cell? ⟨w.heap.size+1,1,none⟩=some (.slice a3 n3 c3)/\w'.cell? ⟨w.heap.size+1,2,none⟩=some (.bool s4)/\w'.cell? ⟨w.heap.size+1,3,none⟩=some (.slice a4 n4 c4))
    (first
     | with_reducible exact(jG B1.o Y.o L5.o (ψ j.o) (ψ j.o) I I _ _ _ _)
     | with_reducible exact(iB B1.o Y.o (Hid.o (by assumption)) (ψ j.o) (ψ j.o))
     | with_reducible exact(iB B1.o Y.o L0.o.drew (ψ j.o) (ψ j.o)))
    (first
     | (have L:=L4.o;clear L;go_at_call 73;refine(iL _ _ (x.num*y.num) ((x.den:Int)*y.den) _ J.o V4.o sp.o sq.o hq).mono ?_;rintro e w5 ⟨⟨v5,rfl,ao⟩,aa⟩
        have V5:=O ao;have L5:Hid (Bl W w5):=ae L4.o aa ρ;obtain⟨s5,a5,n5,c5,s6,a6,n6,c6,d5,rfl,-⟩:=ao;obtain⟨z0,z1,z2,z3,z4⟩:=(B3.o.below L5.o (ψ j.o)).four;clear aa)
     | (have L:=R.o;clear L;go_at_call 68;refine(fJ _ _ (x.den:Int) y.den _ V2.o V3.o au.o av.o).mono ?_;rintro e w4 ⟨⟨v4,rfl,an⟩,Q⟩
        have V4:=O an;replace J:=O (J.o.below Q);have L4:Hid (Bl W w4):=ae R.o Q ρ;clear Q an)
     | (have L:=E.o;clear L;go_at_call 69;refine(eW _ y l _ (R2.o.below (ae u.o E.o (ψ j.o))) BY.o ac).mono ?_;rintro e w3 ⟨⟨v3,rfl,G⟩,A⟩
        have V3:=O G;replace J:=O (J.o.below A);replace V2:=O (V2.o.below A);have R:Hid (Bl W w3):=ae E.o A ρ;clear A G)
     | (have L:=H.o;clear L;go_at_call 69;refine(eW _ x k _ (R1.o.below (ae u.o H.o (ψ j.o))) BX.o ab).mono ?_;rintro e w2 ⟨⟨v2,rfl,ag⟩,C⟩
        have V2:=O ag;replace J:=O (J.o.below C);have E:Hid (Bl W w2):=ae H.o C ρ;clear C ag)
     | (go_at_call 68;refine(fJ _ _ x.num y.num _ (I1.o.below (ae u.o L0.o.drew (ψ j.o))) (I2.o.below (ae u.o L0.o.drew (ψ j.o))) sx.o sy.o).mono ?_;rintro e w1 ⟨⟨v1,rfl,af⟩,F⟩
        have J:=O af;have H:Hid (Bl W w1):=ae L0.o.drew F ρ;clear F af))
   go_wp2;have b4:=B3.o.below L5.o (ψ j.o)
   exact aL results31 (w.heap.size+2) (b4.set4 (.bool s5) (.slice a5 n5 c5) (.bool s6) (.slice a6 n6 c6)) _ rfl underlying55 rfl aY rfl
    ⟨⟨_,rfl,by have:=V5.o;rw[HC.o]at this;exact this.store4 b4 _ _ _ _⟩,aR (ae u.o L5.o (ψ j.o)) I _ _ _ _⟩
  ·have E:=L0
   simp only[Bool.and_eq_true]at hbb;have hx:x.den=1:=of_decide_eq_true (ap.trans hbb.1);have hy:y.den=1:=of_decide_eq_true (ar.trans hbb.2);have hc:((x.num*y.num:Int):Rat)=x*y:=by
    rw[lM,hx,hy,<-lW];simp
   have HC:=O hc;obtain⟨u0,u1,u2,u3,u4⟩:=(Y.o.below E.o (ψ j.o)).four;obtain⟨v0,v1,v2,v3,v4⟩:=(B1.o.below E.o (ψ j.o)).four
   go_wp2_with fail
   refine(fJ _ _ x.num y.num _ (I1.o.below (ae u.o E.o (ψ j.o))) (I2.o.below (ae u.o E.o (ψ j.o))) sx.o sy.o).mono ?_;rintro e w3 ⟨⟨v3,rfl,G⟩,A⟩;obtain⟨V3,R⟩:=η2 G (ae E.o A ρ);obtain⟨s5,a5,n5,c5,d5,rfl,-⟩:=G;obtain⟨t0,t1,t2,t3,t4⟩:=(B3.o.below R.o (ψ j.o)).four;clear A;go_wp2;have b4:=B3.o.below R.o (ψ j.o);exact aL results31 (w.heap.size+2) (b4.set4 (.bool s5) (.slice a5 n5 c5) (.bool false) (.slice none 0 0)) _ rfl underlying55 rfl aY rfl
    ⟨⟨_,rfl,by rw[<-HC.o];exact(kW V3.o).store4 b4 _ _ _ _⟩,aR (ae u.o R.o (ψ j.o)) I _ _ _ _⟩
theorem ju(Y vb:Value)(x y:Rat)(k l:Nat)(w:World)(ha:aj w Y x)(hb:aj w vb y)(J:Bd k x)(E:Bd l y)(h1:k+l<1000000):
 Calls prog 154 #[Y,vb] w fun e w'=>dO w' e (x-y)/\Bl w w':=by
 obtain⟨s1,a1,n1,c1,s2,a2,n2,c2,s3,a3,n3,c3,s4,a4,n4,c4,rfl,rfl,i1,i3,ra,rb,W,hW,b1,b2,b3,hB,hS⟩:=tK w Y vb x y ha hb 55 55 55;obtain⟨I1,I2,R1,R2,BX,BY,L,Q,B3⟩:=η9 i1 i3 ra rb J E b1 b2 b3;obtain⟨u,j,HW,sx,sy,ab,ac⟩:=η7 hB hS hW (J.num I) (E.num I) (J.den I) (E.den I);have aa:k<=1000000:=I;have X:l<=1000000:=I;obtain⟨R,BN,HK⟩:=η3 (jR W) E.neg h1;clear ha hb i1 i3 ra rb J E b1 b2 b3 hB hS hW h1
 go_enter func154,ntmps154
 go_wp2_with fail
 rw[HW.o]
 go_region_held3 (fun w'=>w'.cell? ⟨w.heap.size,0,none⟩=some (.bool s1)/\w'.cell? ⟨w.heap.size,1,none⟩=some (.slice a1 n1 c1)/\w'.cell? ⟨w.heap.size,2,none⟩=some (.bool s2)/\w'.cell? ⟨w.heap.size,3,none⟩=some (.slice a2 n2 c2)/\w'.cell? ⟨w.heap.size+1,0,none⟩=some (.bool s3)/\w'.cell? ⟨w.heap.size+1,1,none⟩=some (.slice a3 n3 c3)/\w'.cell? ⟨w.heap.size+1,2,none⟩=some (.bool s4)/\w'.cell? ⟨w.heap.size+1,3,none⟩=some (.slice a4 n4 c4))
  (first
   | with_reducible exact(jG L.o Q.o H.o (ψ j.o) (ψ j.o) I I _ _ _ _)
   | with_reducible exact(iB L.o Q.o (Hid.o (by assumption)) (ψ j.o) (ψ j.o))
   | with_reducible exact(iB L.o Q.o R.o.drew (ψ j.o) (ψ j.o)))
  (first
   | (have _g:=U.o;clear _g;go_at_call 25;refine(iH _ _ x (-y) k l _ (R1.o.below (ae u.o U.o (ψ j.o))) V1.o BX.o BN.o HK.o).mono ?_;rintro e w2 ⟨⟨v2,rfl,G⟩,C⟩
      have V2:=O G;have H:Hid (Bl W w2):=ae U.o C ρ;obtain⟨s5,a5,n5,c5,s6,a6,n6,c6,d5,rfl,-⟩:=G;obtain⟨z0,z1,z2,z3,z4⟩:=(B3.o.below H.o (ψ j.o)).four;clear C)
   | (go_at_call 195;refine(RNeg_any _ y l _ (R2.o.below (ae u.o R.o.drew (ψ j.o))) BY.o X).mono ?_;rintro e w1 ⟨⟨v1,rfl,F⟩,A⟩
      have V1:=O F;have U:Hid (Bl W w1):=ae R.o.drew A ρ;clear A F))
 go_wp2;have b4:=B3.o.below H.o (ψ j.o)
 exact aL results154 (w.heap.size+2) (b4.set4 (.bool s5) (.slice a5 n5 c5) (.bool s6) (.slice a6 n6 c6)) _ rfl underlying55 rfl aY rfl
  ⟨⟨_,rfl,by rw[Rat.sub_eq_add_neg];exact V2.o.store4 b4 _ _ _ _⟩,aR (ae u.o H.o (ψ j.o)) I _ _ _ _⟩
def jt(w:World)(e:Ending)(q:Rat):Prop:=∃v,e=.returned (.tuple #[v,.int .i64 0])/\aj w v q
theorem qY{x y:Rat}:Rat.divInt (x.num*y.den) ((x.den:Int)*y.num)=x / y:=by
 rw[Rat.div_def,Rat.inv_def]
 conv=>rhs;rw[<-Rat.num_divInt_den x]
 rw[Rat.divInt_mul_divInt]
theorem Bd.div{k l:Nat}{x y:Rat}(e:Bd k x)(j:Bd l y)(h0:y≠0):Bd (k+l) (x / y):=by
 rw[<-qY];have u:y.num≠0:=fun h=>h0 (Rat.num_eq_zero.1 h)
 refine eY ?_ ?_ (Int.mul_ne_zero (ψ x.den_pos) u)
 ·rw[Int.natAbs_mul];exact Bd.pow_mul e.1 j.2
 ·rw[Int.natAbs_mul];exact Bd.pow_mul e.2 j.1
theorem kL(va vb:Value)(x y:Rat)(k l:Nat)(w:World)(ha:aj w va x)(hb:aj w vb y)(F:Bd k x)(G:Bd l y)(h1:k+l<1000000)(h0:y≠0):
 Calls prog 54 #[va,vb] w fun e w'=>jt w' e (x / y)/\Bl w w':=by
 obtain⟨s1,a1,n1,c1,s2,a2,n2,c2,s3,a3,n3,c3,s4,a4,n4,c4,rfl,rfl,i1,i3,ra,rb,W,hW,b1,b2,b3,hB,hS⟩:=tK w va vb x y ha hb 55 55 55;obtain⟨I1,I2,R1,R2,BX,BY,B1,B2,B3⟩:=η9 i1 i3 ra rb F G b1 b2 b3;obtain⟨u,j,HW,sx,sy,ag,an⟩:=η7 hB hS hW (F.num I) (G.num I) (F.den I) (G.den I);have af:k<=1000000:=I;have U:l<=1000000:=I;have hn:y.num≠0:=fun h=>h0 (Rat.num_eq_zero.1 h)
 have hq:(x.den:Int)*y.num≠0:=Int.mul_ne_zero (ψ x.den_pos) hn;have sp:Hid (Small (x.num*y.den)):=⟨k+l,by omega,by rw[Int.natAbs_mul];exact Bd.pow_mul F.1 G.2⟩;have sq:Hid (Small ((x.den:Int)*y.num)):=⟨k+l,by omega,by rw[Int.natAbs_mul];exact Bd.pow_mul F.2 G.1⟩;have HC:Hid (Rat.divInt (x.num*y.den) ((x.den:Int)*y.num)=x / y):=qY;obtain⟨c,hc⟩:=χ (dj y.num 0);have ao:(c == 0)=false:=by rw[beq_eq_false_iff_ne,<-hc];intro h;exact hn (uk.1 h)
 obtain⟨ad,HQ⟩:=η2 hc hq;clear ha hb i1 i3 ra rb F G b1 b2 b3 hB hS hW h1 h0 hn hq hc;obtain⟨y0,y1,y2,y3,y4⟩:=B2.o.four
 go_enter func54,ntmps54
 go_wp2_with fail
 rw[HW.o]
 go_wp2_with fail
 refine(RSign_any _ y l _ (R2.o.below u.o) BY.o U).mono ?_;rw[ad.o];rintro e w0 ⟨rfl,J⟩;have L0:=O J;clear J
 go_wp2_with fail
 go_region_held3 (fun w'=>w'.cell? ⟨w.heap.size,0,none⟩=some (.bool s1)/\w'.cell? ⟨w.heap.size,1,none⟩=some (.slice a1 n1 c1)/\w'.cell? ⟨w.heap.size,2,none⟩=some (.bool s2)/\w'.cell? ⟨w.heap.size,3,none⟩=some (.slice a2 n2 c2)/\w'.cell? ⟨w.heap.size+1,0,none⟩=some (.bool s3)/\w'.cell? ⟨w.heap.size+1,1,none⟩=some (.slice a3 n3 c3)/\w'.cell? ⟨w.heap.size+1,2,none⟩=some (.bool s4)/\w'.cell? ⟨w.heap.size+1,3,none⟩=some (.slice a4 n4 c4))
  (first
   | with_reducible exact(jG B1.o B2.o L5.o (ψ j.o) (ψ j.o) I I _ _ _ _)
   | with_reducible exact(iB B1.o B2.o (Hid.o (by assumption)) (ψ j.o) (ψ j.o))
   | with_reducible exact(iB B1.o B2.o L0.o.drew (ψ j.o) (ψ j.o)))
  (first
   | (have A:=L4.o;clear A;go_at_call 73;refine(iL _ _ (x.num*y.den) ((x.den:Int)*y.num) _ H.o V4.o sp.o sq.o HQ.o).mono ?_;rintro e w5 ⟨⟨v5,rfl,ac⟩,R⟩
      have V5:=O ac;have L5:Hid (Bl W w5):=ae L4.o R ρ;obtain⟨s5,a5,n5,c5,s6,a6,n6,c6,d5,rfl,-⟩:=ac;obtain⟨z0,z1,z2,z3,z4⟩:=(B3.o.below L5.o (ψ j.o)).four;clear R)
   | (have A:=L3.o;clear A;go_at_call 68;refine(fJ _ _ (x.den:Int) y.num _ V3.o (I2.o.below (ae u.o L3.o (ψ j.o))) ag.o sy.o).mono ?_;rintro e w4 ⟨⟨v4,rfl,ab⟩,E⟩
      have V4:=O ab;replace H:=O (H.o.below E);have L4:Hid (Bl W w4):=ae L3.o E ρ;clear E ab)
   | (have A:=L2.o;clear A;go_at_call 69;refine(eW _ x k _ (R1.o.below (ae u.o L2.o (ψ j.o))) BX.o af).mono ?_;rintro e w3 ⟨⟨v3,rfl,aa⟩,C⟩
      have V3:=O aa;replace H:=O (H.o.below C);have L3:Hid (Bl W w3):=ae L2.o C ρ;clear C aa)
   | (have A:=L1.o;clear A;go_at_call 68;refine(fJ _ _ x.num y.den _ (I1.o.below (ae u.o L1.o (ψ j.o))) V1.o sx.o an.o).mono ?_;rintro e w2 ⟨⟨v2,rfl,Y⟩,Q⟩
      have H:=O Y;have L2:Hid (Bl W w2):=ae L1.o Q ρ;clear Q Y)
   | (go_at_call 69;refine(eW _ y l _ (R2.o.below (ae u.o L0.o.drew (ψ j.o))) BY.o U).mono ?_;rintro e w1 ⟨⟨v1,rfl,X⟩,L⟩
      have V1:=O X;have L1:Hid (Bl W w1):=ae L0.o.drew L ρ;clear L X))
 go_wp2;have b4:=B3.o.below L5.o (ψ j.o)
 exact bQ results54 (w.heap.size+2) (b4.set4 (.bool s5) (.slice a5 n5 c5) (.bool s6) (.slice a6 n6 c6)) _ rfl underlying55 rfl aY rfl
  ⟨⟨_,rfl,by have:=V5.o;rw[HC.o]at this;exact this.store4 b4 _ _ _ _⟩,aR (ae u.o L5.o (ψ j.o)) I _ _ _ _⟩
end Go.Proofs.Υ
