/- Lemmas. -/
import Derived.Test.YtodehkjinmgflaaGreatDoorV9
set_option linter.all false
set_option maxHeartbeats 0
set_option maxRecDepth 99999
namespace Go.Proofs.Υ
open Go Go.RowKit Tryz
def GcdI(w wr:World)(G k:Nat)(xv yv:Value):Prop:=
 ∃a n c d b m e f,xv=.slice a n c/\yv=.slice b m e/\Mag wr a n c d/\Mag wr b m e f/\Nz d/\Nz f/\n<=1000000/\m<=1000000/\val f=k/\Nat.gcd (val d) (val f)=G/\Bl w wr
theorem oZ(va vb:Value)(x y:Int)(w:World)(ha:aO w va x)(hb:aO w vb y)(sx:Small x)(sy:Small y):
 Calls prog 112 #[va,vb] w fun e w'=>cW w' e (Int.gcd x y:Nat)/\Bl w w':=by
 obtain⟨s1,a1,n1,c1,xs,rfl,ag,Q,ad,U,aa⟩:=ha.open sx;obtain⟨s2,a2,n2,c2,ys,rfl,an,R,af,X,ab⟩:=hb.open sy;have hG:Nat.gcd (val xs) (val ys)=Int.gcd x y:=by rw[U,X];rfl
 obtain⟨HG,M1,M2⟩:=η3 hG Q R;obtain⟨W,hW,b1,b2,b3,hB,hS⟩:=cC w #[.bool s1,.slice a1 n1 c1] #[.bool s2,.slice a2 n2 c2] #[.bool false,.slice none 0 0] 53 53 53;obtain⟨u,C,B1,B2,B3,HW⟩:=η6 hB hS b1 b2 b3 hW;clear hB hS b1 b2 b3 hW ha hb sx sy Q R ag an U X hG;generalize Int.gcd x y=G at *
 go_enter func112,ntmps112
 go_wp2
 go_quiet (fail)
 rw[HW.o];go_wp2
 go_loopg [5,6] (val ys) (fun k xv yv wr=>GcdI W wr G k xv yv)
 case atStart =>
  have E:Bl W (W.drewN nq):=aF β _;exact⟨_,_,_,xs,_,_,_,ys,rfl,rfl,(M1.o.below u.o).below E,(M2.o.below u.o).below E,ad,af,aa,ab,rfl,HG.o,E⟩
 case round =>
  obtain⟨a,n,c,d,b,m,e,f,rfl,rfl,E,hf,nd,nf,hn,hm,hk,hg,J⟩:=hrel;obtain⟨D,F,ND,NF,K,GG,L⟩:=η7 E hf nd nf hk hg J;clear E hf nd nf hk hg J;by_cases ac:0<m
  ·have i:0<val f:=eW NF.o (by intro h;have:=F.o.len;rw[h]at this;simp at this;omega)
   have A:=O i;clear i
   go_wp2_with fail
   refine(lI _ _ _ _ _ _ d f _ D.o F.o ND.o NF.o hn hm A.o).mono ?_;rintro e0 w1 ⟨⟨p1,p2,p3,p4,p5,p6,p7,p8,rfl,q1,q2,q3,q4,q5,q6⟩,H⟩;obtain⟨Q4,Q5,Q6,L1⟩:=η4 q4 q5 q6 H;clear q1 q2 q3 q4 q5 q6 H;go_wp2
   go_roundg (val p8)
   case measure =>
    rw[Q6.o,<-K.o];exact Nat.mod_lt _ A.o
   case rel =>
    refine⟨_,_,_,f,_,_,_,p8,rfl,rfl,F.o.below L1.o,Q4.o,NF.o,Q5.o,hm,?_,rfl,?_,ae L.o L1.o ρ⟩
    ·have h1:p8.length<=f.length:=ie F.o.dg Q5.o (by rw[Q6.o];exact Nat.le_of_lt (Nat.mod_lt _ A.o))
     have:=Q4.o.len;have:=F.o.len;omega
    ·rw[Q6.o,<-GG.o,Nat.gcd_comm (val d),Nat.gcd_rec (val f) (val d),Nat.gcd_comm]
  ·obtain rfl:m=0:=I
   have i:f=[]:=List.length_eq_zero_iff.1 (ψ F.o.len);have j:val d=G:=by have:=GG.o;rw[i]at this;simpa[val]using this
   obtain⟨x0,x1,x2,x3⟩:=(B3.o.below L.o (ψ C.o)).two;have Y:=O j;clear ac i j;go_wp2;have b4:=B3.o.below L.o (ψ C.o);refine aK results112 (w.heap.size+2) (b4.set2 (.bool false) (.slice a n c)) _ rfl underlying53 rfl di rfl
    ⟨cW.boxed (qo D.o ND.o false _ (by rw[Y.o];rfl) (by simp)) b4,aM (ae u.o L.o (ψ C.o)) I _ _⟩
theorem ret_box2{P:Program}{L:Func}{R:Ending->World->Prop}{a:Act}{w:World}{p q u:Tmp}{ty j:TypeId}(h:L.results=#[.cell p ty,.cell q j,.tmp u])(g g':Nat){cs i:Array Value}{t Q:TypeId}(X:Box w g cs t)(F:Box w g' i Q)(d A:TypeDesc)(Y:a.tmps.getD p undef=.pointer (some ⟨g,0,.none⟩))(H:a.tmps.getD q undef=.pointer (some ⟨g',0,.none⟩))(hu:P.underlying ty=some d)(J:P.underlying j=some A)(W:(match d with|.struct _|.array _ _=>true|_=>false)=true)(C:(match A with|.struct _|.array _ _=>true|_=>false)=true)(hi:(P.info? ty).map (·.size)=some cs.size)(G:(P.info? j).map (·.size)=some i.size)(E:a.defers=[])(hR:R (.returned (.tuple #[.agg cs,.agg i,a.tmps.getD u undef])) w):
 bodyPost P L R .ret a w:=by
 refine bodyPost_ret ?_ E hR;have e:a.tmps[p]?.getD undef=.pointer (some ⟨g,0,none⟩):=by simpa using Y
 have U:a.tmps[q]?.getD undef=.pointer (some ⟨g',0,none⟩):=by simpa using H
 simp[results,h,e,U,asAddr,run_loadVar_row w g t ty cs _ d X hu W hi,run_loadVar_row w g' Q j i _ A F J C G]
theorem bS{P:Program}{j:Func}{R:Ending->World->Prop}{a:Act}{w:World}{p u:Tmp}{ty:TypeId}(h:j.results=#[.cell p ty,.tmp u])(g:Nat){cs:Array Value}{t:TypeId}(C:Box w g cs t)(d:TypeDesc)(E:a.tmps.getD p undef=.pointer (some ⟨g,0,.none⟩))(F:P.underlying ty=some d)(A:(match d with|.struct _|.array _ _=>true|_=>false)=true)(hi:(P.info? ty).map (·.size)=some cs.size)(i:a.defers=[])(hR:R (.returned (.tuple #[.agg cs,a.tmps.getD u undef])) w):
 bodyPost P j R .ret a w:=by
 refine bodyPost_ret ?_ i hR;have e:a.tmps[p]?.getD undef=.pointer (some ⟨g,0,none⟩):=by simpa using E
 simp[results,h,e,asAddr,run_loadVar_row w g t ty cs _ d C F A hi]
theorem nC(w:World)(c1 c2 c3 c4:Array Value)(t1 t2 t3 e:TypeId):
 ∃W,(((w.alloc (.cells c1 t1)).alloc (.cells c2 t2)).alloc (.cells c3 t3)).alloc (.cells c4 e)=W/\Box W w.heap.size c1 t1/\Box W (w.heap.size+1) c2 t2/\Box W (w.heap.size+2) c3 t3/\Box W (w.heap.size+3) c4 e /\
  Bl w W/\W.heap.size=w.heap.size+4:=
 ⟨_,rfl,(((Box.new w c1 t1 _ rfl).old _).old _).old _,((Box.new _ c2 t2 _ (by simp)).old _).old _,(Box.new _ c3 t3 _ (by simp)).old _,Box.new _ c4 e _ (by simp),by go_grown,by simp⟩
theorem sgn_div{x y:Int}(i:0<y)(h:y∣x)(b:Bool)(hb:b=decide (x<0)):sgn b (x.natAbs / y.natAbs)=x / y:=by
 obtain⟨k,rfl⟩:=h;rw[Int.natAbs_mul,Nat.mul_div_cancel_left _ I,Int.mul_ediv_cancel_left _ I,hb];unfold sgn;by_cases e:k<0
 ·have:y*k<0:=Int.mul_neg_of_pos_of_neg i e
  rw[if_pos (by simpa using this)];omega
 ·have:0<=y*k:=Int.mul_nonneg I I
  rw[if_neg (by simpa using this)];omega
theorem mod_zero{x y:Int}(h:y∣x):x.natAbs % y.natAbs=0:=by
 obtain⟨k,rfl⟩:=h;rw[Int.natAbs_mul,Nat.mul_mod_right]
theorem keep11{W w':World}{n e i:Nat}{a b c d:Value}{t1 t2:TypeId}(b1:Box W e #[a,b] t1)(b2:Box W i #[c,d] t2)(h:Below n W w')(j:e<n)(u:i<n):
 w'.cell? ⟨e,0,.none⟩=.some a/\w'.cell? ⟨i,0,.none⟩=.some c:=⟨(b1.below h j).cell 0,(b2.below h u).cell 0⟩
theorem keep11_set{W w':World}{n i j:Nat}{a b c d:Value}{t1 t2:TypeId}(b1:Box W i #[a,b] t1)(b2:Box W j #[c,d] t2)(h:Below n W w')(u:i<n)(A:j<n){e:Nat}(C:i≠e)(E:j≠e)(x y:Value):
 ((w'.setCell ⟨e,0,.none⟩ x).setCell ⟨e,1,.none⟩ y).cell? ⟨i,0,.none⟩=.some a/\((w'.setCell ⟨e,0,.none⟩ x).setCell ⟨e,1,.none⟩ y).cell? ⟨j,0,.none⟩=.some c:=
 ⟨((b1.below h u).other2 C x y).cell 0,((b2.below h A).other2 E x y).cell 0⟩
theorem keep11_set2{W w':World}{n j u:Nat}{a b c d:Value}{t1 t2:TypeId}(b1:Box W j #[a,b] t1)(b2:Box W u #[c,d] t2)(h:Below n W w')(E:j<n)(F:u<n){e i:Nat}(G:j≠e)(H:u≠e)(J:j≠i)(L:u≠i)(x y A C:Value):
 ((((w'.setCell ⟨e,0,.none⟩ x).setCell ⟨e,1,.none⟩ y).setCell ⟨i,0,.none⟩ A).setCell ⟨i,1,.none⟩ C).cell? ⟨j,0,.none⟩=.some a /\
 ((((w'.setCell ⟨e,0,.none⟩ x).setCell ⟨e,1,.none⟩ y).setCell ⟨i,0,.none⟩ A).setCell ⟨i,1,.none⟩ C).cell? ⟨u,0,.none⟩=.some c:=
 ⟨(((b1.below h E).other2 G x y).other2 J A C).cell 0,(((b2.below h F).other2 H x y).other2 L A C).cell 0⟩
def RetQuo(w:World)(e:Ending)(z:Int):Prop:=∃v u,e=.returned (.tuple #[v,u,.int .i64 0])/\aO w v z
def RetQuo2(w:World)(e:Ending)(z:Int):Prop:=∃v s a n c,e=.returned (.tuple #[v,.agg #[.bool s,.slice a n c],.int .i64 0])/\aO w v z
theorem oC(va vb:Value)(x y:Int)(w:World)(ha:aO w va x)(hb:aO w vb y)(sx:Small x)(sy:Small y)(hy:0<y)(hd:y∣x):
 Calls prog 113 #[va,vb] w fun e w'=>RetQuo2 w' e (x / y)/\Bl w w':=by
 have HB:=O hb;obtain⟨s1,a1,n1,c1,xs,rfl,ap,an,a6,au,a0⟩:=ha.open sx;obtain⟨s2,a2,n2,c2,ys,rfl,ar,ao,a7,C,a5⟩:=hb.open sy;obtain rfl:s2=false:=by rw[ar];simp;omega
 have hY:0<val ys:=I;have hQ:=sgn_div hy hd s1 ap;have hM:=mod_zero hd;rw[<-au,<-C]at hQ hM;obtain⟨HQ,HM,HY,M1,M2⟩:=η5 hQ hM hY an ao;obtain⟨W,hW,b1,b2,Y,b4,hB,hS⟩:=nC w #[.bool s1,.slice a1 n1 c1] #[.bool false,.slice a2 n2 c2] #[.bool false,.slice none 0 0] #[.bool false,.slice none 0 0] 53 53 53 53;obtain⟨G,u,R,U,B3,B4,HW⟩:=η7 hB hS b1 b2 Y b4 hW;have hc:dp y 0=1:=by
  unfold dp;split
  ·omega
  ·rfl
 clear hB hS b1 b2 Y b4 hW ha hb an ao ap ar au C hQ hM hY;obtain⟨x0,x1,-,-⟩:=R.o.two;obtain⟨y0,y1,-,-⟩:=U.o.two
 go_enter func113,ntmps113
 go_wp2_with fail
 rw[HW.o]
 go_wp2_with fail
 refine(fE _ y _ (HB.o.below G.o) sy).mono ?_;rw[hc];rintro e w0 ⟨rfl,ad⟩;have L0:=O ad;have ay:_:=(R.o.below L0.o (ψ u.o)).two;have az:_:=(U.o.below L0.o (ψ u.o)).two;obtain⟨ba,bc,-,-⟩:=ay;obtain⟨be,bf,-,-⟩:=az;clear ad
 go_wp2_with fail
 refine(lI _ _ _ _ _ _ xs ys _ (M1.o.below (ae G.o L0.o (ψ u.o))) (M2.o.below (ae G.o L0.o (ψ u.o))) a6 a7 a0 a5 HY.o).mono ?_;rintro e1 w1 ⟨⟨p1,p2,p3,p4,p5,p6,p7,p8,rfl,q1,q2,q3,q4,q5,q6⟩,af⟩;obtain⟨Q1,Q3,Q4,Q6⟩:=η4 q1 q3 q4 q6;have a8:p2<=1000000:=by
  have:=ie M1.o.dg q2 (by rw[q3];exact Nat.div_le_self _ _);have:=q1.len;have:=M1.o.len;omega
 have a9:p6<=1000000:=by
  have:=ie M1.o.dg q5 (by rw[q6];exact Nat.mod_le _ _);have:=q4.len;have:=M1.o.len;omega
 have L1:=O (ae L0.o af ρ);clear q1 q2 q3 q4 q5 q6 af
 go_wp2_with fail
 go_region_held3 (fun w'=>w'.cell? ⟨w.heap.size,0,none⟩=some (.bool s1)/\w'.cell? ⟨w.heap.size+1,0,none⟩=some (.bool false))
  (first
   | with_reducible exact keep11_set2 R.o U.o J.o (ψ u.o) (ψ u.o) I I I I _ _ _ _
   | with_reducible exact keep11_set R.o U.o J.o (ψ u.o) (ψ u.o) I I _ _
   | with_reducible exact keep11 R.o U.o J.o (ψ u.o) (ψ u.o)
   | with_reducible exact keep11 R.o U.o L2.o (ψ u.o) (ψ u.o)
   | with_reducible exact keep11 R.o U.o L1.o.drew (ψ u.o) (ψ u.o))
  (first
   | (have aw:=V2.o;clear aw;go_at_call 105;refine(dM _ p5 p6 p7 p8 w2 (Q4.o.below H2.o) I).mono ?_;rw[Q6.o,HM.o];rintro e w3 ⟨⟨v3,rfl,av⟩,ab⟩
      obtain⟨V3,VQ⟩:=η2 av (V2.o.below ab);have J:Hid (Bl W w3):=ae L2.o ab ρ;obtain⟨s4,L,Q,c4,d4,rfl,-⟩:=av;obtain⟨z0,z1,z2,z3⟩:=(B3.o.below J.o (ψ u.o)).two;obtain⟨u0,u1,u2,u3⟩:=(B4.o.below J.o (ψ u.o)).two;clear ab)
   | (go_at_call 105;refine(dM _ p1 p2 p3 p4 w1.drew (Q1.o.below β.drew) I).mono ?_;rw[Q3.o];rintro e w2 ⟨⟨v2,rfl,C⟩,aa⟩
      have V2:=O C;have L2:Hid (Bl W w2):=ae L1.o.drew aa ρ;have H2:Hid (Bl w1 w2):=ae β.drew aa ρ;obtain⟨s3,E,F,c3,d3,rfl,-⟩:=C;clear aa))
 obtain⟨X,hX⟩:=χ (((((w3.setCell ⟨w.heap.size+1+1,0,none⟩ (.bool s3)).setCell ⟨w.heap.size+1+1,1,none⟩ (.slice E F c3)).setCell ⟨w.heap.size+1+1+1,0,none⟩ (.bool s4)).setCell ⟨w.heap.size+1+1+1,1,none⟩ (.slice L Q c4)));have Y:=B3.o.below J.o (ψ u.o);have b4:=B4.o.below J.o (ψ u.o);have k3:Box X (w.heap.size+2) #[.bool s3,.slice E F c3] 53:=hX▸(Y.set2 (.bool s3) (.slice E F c3)).other2 I _ _;have H:=b4.other2 (g':=w.heap.size+2) (i:=0) (j:=1) I (.bool s3) (.slice E F c3);have k4:Box X (w.heap.size+3) #[.bool s4,.slice L Q c4] 53:=hX▸H.set2 (.bool s4) (.slice L Q c4);have i3:aO X (.agg #[.bool s3,.slice E F c3]) (x / y):=by
  rw[<-hX,<-HQ.o];exact(VQ.o.store2 Y _ _).store2 H _ _
 have i4:aO X (.agg #[.bool s4,.slice L Q c4]) 0:=by
  rw[<-hX];have:=V3.o;rw[show sgn s1 0=0 from by unfold sgn;cases s1<;>rfl]at this;exact(this.store2 Y _ _).store2 H _ _
 have ag:Bl w X:=by
  rw[<-hX];exact aM (aM (ae G.o J.o (ψ u.o)) I _ _) I _ _
 obtain⟨K3,K4,I3,I4,L5,X1⟩:=η6 k3 k4 i3 i4 ag hX;clear Y b4 k3 k4 H i3 i4 ag hX
 go_wp2_with fail
 rw[X1.o];refine(fE _ 0 _ I4.o ⟨0,by omega,by simp⟩).mono ?_;rw[show dp 0 0=0 from rfl];rintro e w4 ⟨rfl,A⟩;have h5:=K3.o.to A;have h6:=K4.o.to A;obtain⟨K5,K6,I5,L6⟩:=η4 h5 h6 (I3.o.below A) (ae L5.o A ρ);obtain⟨z0,z1,z2,z3⟩:=h5.two;obtain⟨u0,u1,u2,u3⟩:=h6.two;clear h5 h6 A X1 K3 K4 I3 I4 L5;go_wp2;go_region;go_wp2;have b5:Box ((((w4.setCell ⟨w.heap.size+1+1,0,none⟩ (.bool s3)).setCell ⟨w.heap.size+1+1,1,none⟩ (.slice E F c3)).setCell ⟨w.heap.size+1+1+1,0,none⟩ (.bool s4)).setCell ⟨w.heap.size+1+1+1,1,none⟩ (.slice L Q c4)).drew (w.heap.size+1+1) #[.bool s3,.slice E F c3] 53:=
  (K5.o.set2 (.bool s3) (.slice E F c3)).other2 I _ _
 have ac:=K6.o.other2 (g':=w.heap.size+1+1) (i:=0) (j:=1) I (.bool s3) (.slice E F c3);have b6:Box ((((w4.setCell ⟨w.heap.size+1+1,0,none⟩ (.bool s3)).setCell ⟨w.heap.size+1+1,1,none⟩ (.slice E F c3)).setCell ⟨w.heap.size+1+1+1,0,none⟩ (.bool s4)).setCell ⟨w.heap.size+1+1+1,1,none⟩ (.slice L Q c4)).drew (w.heap.size+1+1+1) #[.bool s4,.slice L Q c4] 53:=
  ac.set2 (.bool s4) (.slice L Q c4)
 refine ret_box2 results113 (w.heap.size+1+1) (w.heap.size+1+1+1) b5 b6 _ _ rfl rfl underlying53 underlying53 rfl rfl di di rfl ⟨⟨_,_,_,_,_,rfl,?_⟩,?_⟩
 ·exact((I5.o.store2 K5.o _ _).store2 ac _ _).below β.drew
 ·exact(aM (aM L6.o I _ _) I _ _).drew
theorem mQ(i j:Value)(x y:Int)(w:World)(ha:aO w i x)(hb:aO w j y)(G:Small x)(H:Small y)(F:0<y)(E:y∣x):
 Calls prog 113 #[i,j] w fun e w'=>RetQuo w' e (x / y)/\Bl w w':=
 (oC i j x y w ha hb G H F E).mono fun e w' h=>by
  obtain⟨⟨v,s,a,n,c,u,A⟩,C⟩:=h;exact⟨⟨v,_,u,A⟩,C⟩
def ak(w:World)(v:Value)(q:Rat):Prop:=
 ∃s1 a1 n1 c1 s2 a2 n2 c2 d,v=.agg #[.bool s1,.slice a1 n1 c1,.bool s2,.slice a2 n2 c2]/\aO w (.agg #[.bool s1,.slice a1 n1 c1]) q.num /\
  aO w (.agg #[.bool s2,.slice a2 n2 c2]) d/\(d=q.den\/d=0/\q.den=1)
theorem ak.below{w w':World}{v:Value}{q:Rat}(h:ak w v q)(hb:Bl w w'):ak w' v q:=by
 obtain⟨s1,e,E,c1,s2,i,F,c2,d,j,u,A,C⟩:=h;exact⟨s1,e,E,c1,s2,i,F,c2,d,j,u.below hb,A.below hb,C⟩
def eh(w:World)(e:Ending)(q:Rat):Prop:=∃v,e=.returned v/\ak w v q
def Bd(k:Nat)(q:Rat):Prop:=q.num.natAbs<B ^ k/\q.den<B ^ k
theorem Bd.num{k:Nat}{q:Rat}(h:Bd k q)(e:k<=1000000):Small q.num:=⟨k,e,h.1⟩
theorem Bd.den{k:Nat}{q:Rat}(h:Bd k q)(e:k<=1000000):Small (q.den:Int):=⟨k,e,h.2⟩
theorem Bd.mono{k l:Nat}{q:Rat}(h:Bd k q)(e:k<=l):Bd l q:=
 have:=Nat.pow_le_pow_right (show 0<B by unfold B;omega) e
 ⟨Nat.lt_of_lt_of_le h.1 this,Nat.lt_of_lt_of_le h.2 this⟩
theorem small_zero:Small 0:=⟨0,by omega,by simp⟩
theorem rQ:Small 1:=⟨1,by omega,by unfold B;simp⟩
theorem Bd.den'{k:Nat}{q:Rat}{d:Int}(h:Bd k q)(i:k<=1000000)(e:d=q.den\/d=0/\q.den=1):Small d:=by
 rcases e with rfl|⟨rfl,-⟩
 ·exact h.den i
 ·exact small_zero
theorem Bd.pow_mul{k l:Nat}{a b:Nat}(ha:a<B ^ k)(hb:b<B ^ l):a*b<B ^ (k+l):=by
 rw[Nat.pow_add];exact Nat.mul_lt_mul'' ha hb
theorem eX{k:Nat}{n d:Int}(i:n.natAbs<B ^ k)(e:d.natAbs<B ^ k)(h0:d≠0):Bd k (Rat.divInt n d):=by
 refine⟨?_,?_⟩
 ·rw[Rat.num_divInt]
  refine Nat.lt_of_le_of_lt (Nat.le_trans ?_ (Nat.le_refl n.natAbs)) i;have j:(d.sign*n / (d.gcd n:Nat)).natAbs<=(d.sign*n).natAbs:=Int.natAbs_ediv_le_natAbs _ _;have u:(d.sign*n).natAbs=n.natAbs:=by rw[Int.natAbs_mul,Int.natAbs_sign_of_ne_zero h0,Nat.one_mul]
  omega
 ·rw[Rat.den_divInt,if_neg h0]
  exact Nat.lt_of_le_of_lt (Nat.div_le_self _ _) e
theorem lM(x y:Rat):x+y=Rat.divInt (x.num*y.den+y.num*x.den) ((x.den*y.den:Nat):Int):=by rw[Rat.add_def',Rat.divInt_ofNat]
theorem lB(x y:Rat):x*y=Rat.divInt (x.num*y.num) ((x.den*y.den:Nat):Int):=by rw[Rat.mul_def',Rat.divInt_ofNat]
theorem Bd.add{k l:Nat}{x y:Rat}(e:Bd k x)(i:Bd l y):Bd (k+l+1) (x+y):=by
 rw[lM];have u:=Bd.pow_mul e.1 i.2;have j:=Bd.pow_mul i.1 e.2;have A:=Bd.pow_mul e.2 i.2;have C:B ^ (k+l+1)=B ^ (k+l)*B:=Nat.pow_succ ..;have E:B ^ (k+l)*2<=B ^ (k+l)*B:=Nat.mul_le_mul_left _ (by unfold B;omega);rw[show l+k=k+l from by omega]at j;refine eX ?_ ?_ ?_
 ·refine Nat.lt_of_le_of_lt (Int.natAbs_add_le _ _) ?_
  rw[Int.natAbs_mul,Int.natAbs_mul,Int.natAbs_natCast,Int.natAbs_natCast];omega
 ·rw[Int.natAbs_natCast];omega
 ·have:=Nat.mul_pos x.den_pos y.den_pos;omega
theorem Bd.mul{k l:Nat}{x y:Rat}(e:Bd k x)(i:Bd l y):Bd (k+l) (x*y):=by
 rw[lB];refine eX ?_ ?_ ?_
 ·rw[Int.natAbs_mul];exact Bd.pow_mul e.1 i.1
 ·rw[Int.natAbs_natCast];exact Bd.pow_mul e.2 i.2
 ·have:=Nat.mul_pos x.den_pos y.den_pos;omega
theorem Bd.neg{k:Nat}{x:Rat}(e:Bd k x):Bd k (-x):=⟨by rw[Rat.neg_num,Int.natAbs_neg];exact e.1,by rw[Rat.neg_den];exact e.2⟩
theorem Bd.sub{k l:Nat}{x y:Rat}(e:Bd k x)(i:Bd l y):Bd (k+l+1) (x-y):=by rw[Rat.sub_eq_add_neg];exact e.add i.neg
theorem Bd.int(n:Int)(h:n.natAbs<B ^ 2):Bd 2 (n:Rat):=⟨h,by show 1<B ^ 2;unfold B;omega⟩
theorem Bd.zero:Bd 1 0:=⟨by show 0<B ^ 1;unfold B;omega,by show 1<B ^ 1;unfold B;omega⟩
theorem ak.open{w:World}{v:Value}{q:Rat}(h:ak w v q):
 ∃s1 e j c1 s2 i u c2 d,v=.agg #[.bool s1,.slice e j c1,.bool s2,.slice i u c2]/\aO w (.agg #[.bool s1,.slice e j c1]) q.num /\
  aO w (.agg #[.bool s2,.slice i u c2]) d/\(d=q.den\/d=0/\q.den=1):=h
theorem jz(w:World):aO w (.agg #[.bool false,.slice .none 0 0]) 0:=⟨_,_,_,_,[],rfl,rfl,Mag.nil w,Or.inl rfl,rfl⟩
theorem kG{w:World}{s:Bool}{a:Option Addr}{n c:Nat}{z:Int}(h:aO w (.agg #[.bool s,.slice a n c]) z):ak w (.agg #[.bool s,.slice a n c,.bool false,.slice .none 0 0]) (z:Rat):=
 ⟨_,_,_,_,_,_,_,_,0,rfl,h,jz w,Or.inr ⟨rfl,rfl⟩⟩
theorem aO.store4{w:World}{v:Value}{z:Int}(h:aO w v z){g:Nat}{b j:Bool}{a i:Option Addr}{n c A u:Nat}{t:TypeId}(hb:Box w g #[.bool b,.slice a n c,.bool j,.slice i A u] t)(x y C E:Value):
 aO ((((w.setCell ⟨g,0,.none⟩ x).setCell ⟨g,1,.none⟩ y).setCell ⟨g,2,.none⟩ C).setCell ⟨g,3,.none⟩ E) v z:=by
 obtain⟨h0,F,G,H,-⟩:=hb.four;refine(((h.setCell h0 (gZ.bool b) x).setCell ?_ (gZ.slice a n c) y).setCell ?_ (gZ.bool j) C).setCell ?_ (gZ.slice i A u) E
 ·rw[World.cell?_setCell_other _ _ _ _ (by intro e;cases e)];exact F
 ·rw[World.cell?_setCell_other _ _ _ _ (by intro e;cases e),World.cell?_setCell_other _ _ _ _ (by intro e;cases e)];exact G
 ·rw[World.cell?_setCell_other _ _ _ _ (by intro e;cases e),World.cell?_setCell_other _ _ _ _ (by intro e;cases e),World.cell?_setCell_other _ _ _ _ (by intro e;cases e)];exact H
theorem ak.store4{w:World}{v:Value}{q:Rat}(h:ak w v q){g:Nat}{b u:Bool}{a e:Option Addr}{n c H A:Nat}{t:TypeId}(hb:Box w g #[.bool b,.slice a n c,.bool u,.slice e H A] t)(x y Q R:Value):
 ak ((((w.setCell ⟨g,0,.none⟩ x).setCell ⟨g,1,.none⟩ y).setCell ⟨g,2,.none⟩ Q).setCell ⟨g,3,.none⟩ R) v q:=by
 obtain⟨s1,i,J,c1,s2,j,L,c2,d,C,E,F,G⟩:=h;exact⟨s1,i,J,c1,s2,j,L,c2,d,C,E.store4 hb _ _ _ _,F.store4 hb _ _ _ _,G⟩
theorem aW{w w':World}{n g:Nat}(h:Below n w w')(e:n<=g)(x y i j:Value):
 Below n w ((((w'.setCell ⟨g,0,.none⟩ x).setCell ⟨g,1,.none⟩ y).setCell ⟨g,2,.none⟩ i).setCell ⟨g,3,.none⟩ j):=
 (((h.setCell e x).setCell e y).setCell e i).setCell e j
theorem sE{W w':World}{n e:Nat}{a b c d:Value}{t1:TypeId}(b1:Box W e #[a,b,c,d] t1)(h:Below n W w')(i:e<n):
 w'.cell? ⟨e,0,.none⟩=.some a/\w'.cell? ⟨e,1,.none⟩=.some b/\w'.cell? ⟨e,2,.none⟩=.some c/\w'.cell? ⟨e,3,.none⟩=.some d:=
 ⟨(b1.below h i).cell 0,(b1.below h i).cell 1,(b1.below h i).cell 2,(b1.below h i).cell 3⟩
theorem Box.other4{w:World}{g:Nat}{cs:Array Value}{t:TypeId}(h:Box w g cs t){g':Nat}(e:g≠g')(x y z u:Value):
 Box ((((w.setCell ⟨g',0,.none⟩ x).setCell ⟨g',1,.none⟩ y).setCell ⟨g',2,.none⟩ z).setCell ⟨g',3,.none⟩ u) g cs t:=
 (h.other2 e x y).other2 e z u
theorem bD:(prog.info? 55).map (·.size)=some 4:=by kernel_rfl
theorem mm(w:World):Calls prog 103 #[] w fun e w'=>cW w' e 1/\Bl w w':=by
 go_enter func103,ntmps103
 obtain⟨W,H,b1,C,hS⟩:=aB w #[.bool false,.slice none 0 0] 53
 go_wp2_with fail
 refine(jn 1 _ I I).mono ?_;rintro e Q ⟨⟨L,rfl,u⟩,i⟩;have F:=O u;have j:=b1.below i I;obtain⟨A,E⟩:=η2 j (ae C i ρ);obtain⟨s3,G,J,c3,d3,rfl,-⟩:=u;obtain⟨R,U,X,Y⟩:=j.two;clear i j b1 C hS H;go_wp2;exact aK results103 w.heap.size (A.o.set2 (.bool s3) (.slice G J c3)) _ rfl underlying53 rfl di rfl
  ⟨cW.boxed F.o A.o,aM E.o ρ _ _⟩
theorem dc(n:Int)(w:World)(C:-9223372036854775808<=n)(E:n<=9223372036854775807):
 Calls prog 23 #[.int .i64 n] w fun e w'=>eh w' e (n:Rat)/\Bl w w':=by
 have hc:=jn n;have G:=O (fun w=>hc w C E);clear hc C E
 go_enter func23,ntmps23
 obtain⟨W,Q,b1,F,hS⟩:=aB w #[.bool false,.slice none 0 0,.bool false,.slice none 0 0] 55
 go_wp2_with fail
 refine(G.o _).mono ?_;rintro e X ⟨⟨U,rfl,u⟩,i⟩;have J:=O u;have j:=b1.below i I;obtain⟨A,H⟩:=η2 j (ae F i ρ);obtain⟨s3,L,R,c3,d3,rfl,-⟩:=u;obtain⟨Y,x1,x2,x3,x4⟩:=j.four;clear i j b1 F hS Q;go_wp2;exact aK results23 w.heap.size (A.o.set4 (.bool s3) (.slice L R c3) (.bool false) (.slice none 0 0)) _ rfl underlying55 rfl bD rfl
  ⟨⟨_,rfl,(kG J.o).store4 A.o _ _ _ _⟩,aW H.o ρ _ _ _ _⟩
theorem RSign_any(E:Value)(x:Rat)(k:Nat)(w:World)(ha:ak w E x)(A:Bd k x)(u:k<=1000000):
 Calls prog 100 #[E] w fun e w'=>e=.returned (.int .i64 (dp x.num 0))/\Bl w w':=by
 obtain⟨s1,H,Q,c1,s2,J,R,c2,d,rfl,C,-,-⟩:=ha.open;obtain⟨F,U⟩:=η2 C (A.num u);clear ha C A u;obtain⟨W,L,b1,j,hS⟩:=aB w #[.bool s1,.slice H Q c1,.bool s2,.slice J R c2] 55;obtain⟨X,Y,x2,x3,x4⟩:=b1.four
 go_enter func100,ntmps100
 go_wp2_with fail
 refine(fE _ x.num _ (F.o.below j) U.o).mono ?_;rintro e w1 ⟨rfl,i⟩;have G:=O (ae j i ρ);clear i j hS L b1 X Y x2 x3 x4;go_wp2;exact bodyPost_ret (results_tmp results100 _ _ _) rfl ⟨rfl,G.o⟩
theorem Num_any(C:Value)(x:Rat)(w:World)(ha:ak w C x):
 Calls prog 120 #[C] w fun e w'=>cW w' e x.num/\Bl w w':=by
 obtain⟨s1,i,A,c1,s2,F,G,c2,d,rfl,u,-,-⟩:=ha.open;have E:=O u;clear ha u;obtain⟨W,H,b1,b2,j,hS⟩:=bU w #[.bool s1,.slice i A c1,.bool s2,.slice F G c2] #[.bool false,.slice none 0 0] 55 53;obtain⟨J,L,Q,R,U⟩:=b1.four;obtain⟨X,Y,y2,y3⟩:=b2.two
 go_enter func120,ntmps120
 go_wp2;exact aK results120 (w.heap.size+1) (b2.set2 (.bool s1) (.slice i A c1)) _ rfl underlying53 rfl di rfl
  ⟨cW.boxed (E.o.below j) b2,aM j I _ _⟩
theorem cmpZ_pos{n:Nat}(h:0<n):dp (n:Int) 0=1:=by
 unfold dp;split
 ·omega
 ·split
  ·rfl
  ·omega
theorem tO{x y:Int}:dp x y=0↔x=y:=by
 unfold dp;split
 ·constructor<;>intro<;>omega
 ·split<;>constructor<;>intro<;>omega
theorem eV(va:Value)(x:Rat)(k:Nat)(w:World)(ha:ak w va x)(hk:Bd k x)(h1:k<=1000000):
 Calls prog 69 #[va] w fun e w'=>cW w' e x.den/\Bl w w':=by
 obtain⟨s1,a1,n1,c1,s2,a2,n2,c2,d,rfl,-,i1,Q⟩:=ha.open;obtain⟨J,sd⟩:=η2 i1 (hk.den' h1 Q);clear ha i1 hk h1;obtain⟨W,hW,b1,b2,hB,hS⟩:=bU w #[.bool s1,.slice a1 n1 c1,.bool s2,.slice a2 n2 c2] #[.bool false,.slice none 0 0] 55 53;obtain⟨B1,B2,G,A⟩:=η4 b1 b2 hB hS;obtain⟨U,X,Y,x3,x4⟩:=b1.four;clear b1 b2 hB hS;by_cases h0:d=0
 ·subst h0
  obtain R:x.den=1:=by rcases Q with h|h;exact absurd h (ψ x.den_pos);exact h.2
  go_enter func69,ntmps69
  go_wp2_with fail
  refine(fE _ 0 _ (J.o.below G.o) sd.o).mono ?_;rw[show dp 0 0=0 from rfl];rintro e w1 ⟨rfl,i⟩;have H:=O (ae G.o i (ψ A.o));have j:=B2.o.below i (ψ A.o);have u:=O j;clear i hW U X Y x3 x4 j
  go_wp2_with fail
  refine(mm _).mono ?_;rintro e w2 ⟨⟨v1,rfl,F⟩,C⟩;have V1:=O F;have L:=u.o.to C;obtain⟨B3,L2⟩:=η2 L (ae H.o C ρ);obtain⟨s3,a3,n3,c3,d3,rfl,-⟩:=F;obtain⟨U,X,Y,x3⟩:=L.two;clear C L;go_wp2;exact aK results69 (w.heap.size+1) (B3.o.set2 (.bool s3) (.slice a3 n3 c3)) _ rfl underlying53 rfl di rfl
   ⟨by rw[R];exact cW.boxed V1.o B3.o,aM L2.o I _ _⟩
 ·obtain rfl:d=x.den:=by rcases Q with h|h;exact h;exact absurd h.1 h0
  go_enter func69,ntmps69
  go_wp2_with fail
  refine(fE _ x.den _ (J.o.below G.o) sd.o).mono ?_;rw[cmpZ_pos x.den_pos];rintro e w1 ⟨rfl,i⟩;have H:=O (ae G.o i (ψ A.o));have E:=B1.o.below i (ψ A.o);have j:=B2.o.below i (ψ A.o);have u:=O j;obtain⟨U,X,Y,x3,x4⟩:=E.four;obtain⟨y0,y1,y2,y3⟩:=j.two;clear i hW E j;go_wp2;exact aK results69 (w.heap.size+1) (u.o.set2 (.bool s2) (.slice a2 n2 c2)) _ rfl underlying53 rfl di rfl
   ⟨cW.boxed (J.o.below H.o) u.o,aM H.o I _ _⟩
theorem fJ(va:Value)(x:Rat)(k:Nat)(w:World)(ha:ak w va x)(hk:Bd k x)(h1:k<=1000000):
 Calls prog 66 #[va] w fun e w'=>e=.returned (.bool (decide (x.den=1)))/\Bl w w':=by
 obtain⟨s1,a1,n1,c1,s2,a2,n2,c2,d,rfl,-,i1,u⟩:=ha.open;obtain⟨Q,Y⟩:=η2 i1 (hk.den' h1 u);clear ha i1 hk h1;obtain⟨W,hW,b1,hB,hS⟩:=aB w #[.bool s1,.slice a1 n1 c1,.bool s2,.slice a2 n2 c2] 55;obtain⟨H,A,i⟩:=η3 b1 hB hS;obtain⟨x0,x1,x2,x3,x4⟩:=b1.four;clear b1 hB hS;by_cases h0:d=0
 ·subst h0
  obtain X:x.den=1:=by rcases u with h|h;exact absurd h (ψ x.den_pos);exact h.2
  go_enter func66,ntmps66
  go_wp2_with fail
  first|(go_region_with (go_at_call 102;refine(fE _ 0 _ (Q.o.below A.o.drew) Y.o).mono ?_;rw[show dp 0 0=0 from rfl];rintro e w1 ⟨rfl,j⟩;have J:Hid (Bl W w1):=ae β.drew j ρ;clear j))|fail
  all_goals
   go_wp2;exact bodyPost_ret (results_tmp results66 _ _ _) rfl ⟨by rw[X];rfl,ae A.o J.o (ψ i.o)⟩
 ·obtain rfl:d=x.den:=by rcases u with h|h;exact h;exact absurd h.1 h0
  have F:=cmpZ_pos x.den_pos;have L:=O F;have U:dp x.den 1=0/\decide (x.den=1)=true\/dp x.den 1=1/\decide (x.den=1)=false:=by
   have:=x.den_pos;unfold dp;by_cases h:x.den=1
   ·left;rw[h];exact⟨rfl,rfl⟩
   ·right;rw[if_neg I,if_pos I];exact⟨rfl,by simpa using h⟩
  clear F
  rcases U with⟨hc,u⟩|⟨hc,u⟩
  all_goals
   obtain⟨HC,HD⟩:=η2 hc u;clear hc u
   go_enter func66,ntmps66
   go_wp2_with fail
   go_region_held3 (fun w'=>w'.cell? ⟨w.heap.size,2,none⟩=some (.bool s2)/\w'.cell? ⟨w.heap.size,3,none⟩=some (.slice a2 n2 c2))
    (first
     | with_reducible exact(sE H.o L3.o (ψ i.o)).2.2
     | with_reducible exact(sE H.o R.o (ψ i.o)).2.2
     | with_reducible exact(sE H.o J.o (ψ i.o)).2.2
     | with_reducible exact(sE H.o (Below.refl W.heap.size W).drew (ψ i.o)).2.2)
    (first
     | (go_at_call 102;refine(fE _ (x.den:Int) _ (Q.o.below A.o.drew) Y.o).mono ?_;rw[L.o];rintro e w1 ⟨rfl,j⟩
        have J:Hid (Bl W w1):=ae β.drew j ρ;clear j)
     | (go_at_call 103;refine(mm _).mono ?_;rintro e w2 ⟨⟨v2,rfl,G⟩,C⟩
        have V2:=O G;have R:Hid (Bl W w2):=ae J.o C ρ;clear C G)
     | (go_at_call 67;refine(fp _ _ (x.den:Int) 1 _ (Q.o.below (ae A.o R.o (ψ i.o))) V2.o Y.o rQ).mono ?_;rw[HC.o];rintro e w3 ⟨rfl,E⟩
        have L3:Hid (Bl W w3):=ae R.o E ρ;clear E))
   go_wp2;exact bodyPost_ret (results_tmp results66 _ _ _) rfl ⟨by rw[HD.o];rfl,ae A.o L3.o (ψ i.o)⟩
theorem iq{W w':World}{n e i:Nat}{a b c d A C E F:Value}{t1 t2:TypeId}(b1:Box W e #[a,b,c,d] t1)(b2:Box W i #[A,C,E,F] t2)(h:Below n W w')(j:e<n)(u:i<n):
 w'.cell? ⟨e,0,.none⟩=.some a/\w'.cell? ⟨e,1,.none⟩=.some b/\w'.cell? ⟨e,2,.none⟩=.some c/\w'.cell? ⟨e,3,.none⟩=.some d /\
 w'.cell? ⟨i,0,.none⟩=.some A/\w'.cell? ⟨i,1,.none⟩=.some C/\w'.cell? ⟨i,2,.none⟩=.some E/\w'.cell? ⟨i,3,.none⟩=.some F:=
 ⟨(b1.below h j).cell 0,(b1.below h j).cell 1,(b1.below h j).cell 2,(b1.below h j).cell 3,(b2.below h u).cell 0,(b2.below h u).cell 1,(b2.below h u).cell 2,(b2.below h u).cell 3⟩
theorem m8{W w':World}{n i:Nat}{a b c d:Value}{t1:TypeId}(b1:Box W i #[a,b,c,d] t1)(h:Below n W w')(j:i<n){e:Nat}(A:i≠e)(x y z u:Value):
 ((((w'.setCell ⟨e,0,.none⟩ x).setCell ⟨e,1,.none⟩ y).setCell ⟨e,2,.none⟩ z).setCell ⟨e,3,.none⟩ u).cell? ⟨i,0,.none⟩=.some a /\
 ((((w'.setCell ⟨e,0,.none⟩ x).setCell ⟨e,1,.none⟩ y).setCell ⟨e,2,.none⟩ z).setCell ⟨e,3,.none⟩ u).cell? ⟨i,1,.none⟩=.some b /\
 ((((w'.setCell ⟨e,0,.none⟩ x).setCell ⟨e,1,.none⟩ y).setCell ⟨e,2,.none⟩ z).setCell ⟨e,3,.none⟩ u).cell? ⟨i,2,.none⟩=.some c /\
 ((((w'.setCell ⟨e,0,.none⟩ x).setCell ⟨e,1,.none⟩ y).setCell ⟨e,2,.none⟩ z).setCell ⟨e,3,.none⟩ u).cell? ⟨i,3,.none⟩=.some d:=
 ⟨((b1.below h j).other4 A x y z u).cell 0,((b1.below h j).other4 A x y z u).cell 1,((b1.below h j).other4 A x y z u).cell 2,((b1.below h j).other4 A x y z u).cell 3⟩
theorem jy{W w':World}{n i j:Nat}{a b c d A C E F:Value}{t1 t2:TypeId}(b1:Box W i #[a,b,c,d] t1)(b2:Box W j #[A,C,E,F] t2)(h:Below n W w')(G:i<n)(H:j<n){e:Nat}(J:i≠e)(L:j≠e)(x y z u:Value):
 ((((w'.setCell ⟨e,0,.none⟩ x).setCell ⟨e,1,.none⟩ y).setCell ⟨e,2,.none⟩ z).setCell ⟨e,3,.none⟩ u).cell? ⟨i,0,.none⟩=.some a /\
 ((((w'.setCell ⟨e,0,.none⟩ x).setCell ⟨e,1,.none⟩ y).setCell ⟨e,2,.none⟩ z).setCell ⟨e,3,.none⟩ u).cell? ⟨i,1,.none⟩=.some b /\
 ((((w'.setCell ⟨e,0,.none⟩ x).setCell ⟨e,1,.none⟩ y).setCell ⟨e,2,.none⟩ z).setCell ⟨e,3,.none⟩ u).cell? ⟨i,2,.none⟩=.some c /\
 ((((w'.setCell ⟨e,0,.none⟩ x).setCell ⟨e,1,.none⟩ y).setCell ⟨e,2,.none⟩ z).setCell ⟨e,3,.none⟩ u).cell? ⟨i,3,.none⟩=.some d /\
 ((((w'.setCell ⟨e,0,.none⟩ x).setCell ⟨e,1,.none⟩ y).setCell ⟨e,2,.none⟩ z).setCell ⟨e,3,.none⟩ u).cell? ⟨j,0,.none⟩=.some A /\
 ((((w'.setCell ⟨e,0,.none⟩ x).setCell ⟨e,1,.none⟩ y).setCell ⟨e,2,.none⟩ z).setCell ⟨e,3,.none⟩ u).cell? ⟨j,1,.none⟩=.some C /\
 ((((w'.setCell ⟨e,0,.none⟩ x).setCell ⟨e,1,.none⟩ y).setCell ⟨e,2,.none⟩ z).setCell ⟨e,3,.none⟩ u).cell? ⟨j,2,.none⟩=.some E /\
 ((((w'.setCell ⟨e,0,.none⟩ x).setCell ⟨e,1,.none⟩ y).setCell ⟨e,2,.none⟩ z).setCell ⟨e,3,.none⟩ u).cell? ⟨j,3,.none⟩=.some F:=by
 obtain⟨p0,p1,p2,Q⟩:=m8 b1 h G J x y z u;exact⟨p0,p1,p2,Q,m8 b2 h H L x y z u⟩
theorem jK(W:World):Bl W W:=Below.refl _ _
theorem RNeg_any(va:Value)(x:Rat)(k:Nat)(w:World)(ha:ak w va x)(hk:Bd k x)(R:k<=1000000):
 Calls prog 195 #[va] w fun e w'=>eh w' e (-x)/\Bl w w':=by
 obtain⟨s1,L,n1,c1,s2,G,H,c2,d,rfl,i1,i2,Y⟩:=ha.open;obtain⟨I1,I2,HD,sx⟩:=η4 i1 i2 Y (hk.num R);clear ha i1 i2 hk R Y;obtain⟨W,X,b1,b2,U,hS⟩:=bU w #[.bool s1,.slice L n1 c1,.bool s2,.slice G H c2] #[.bool false,.slice none 0 0,.bool false,.slice none 0 0] 55 55;obtain⟨E,J,j,i,F,HW⟩:=η6 b1 b2 U hS (jK W) X;clear b1 b2 U hS X
 go_enter func195,ntmps195
 go_wp2_with fail
 rw[HW.o]
 go_region_held3 (fun w'=>w'.cell? ⟨w.heap.size,0,none⟩=some (.bool s1)/\w'.cell? ⟨w.heap.size,1,none⟩=some (.slice L n1 c1)/\w'.cell? ⟨w.heap.size,2,none⟩=some (.bool s2)/\w'.cell? ⟨w.heap.size,3,none⟩=some (.slice G H c2))
  (first
   | with_reducible exact(m8 E.o u.o (ψ i.o) I _ _ _ _)
   | with_reducible exact(sE E.o u.o (ψ i.o))
   | with_reducible exact(sE E.o F.o.drew (ψ i.o)))
  (first
   | (go_at_call 111;refine(uf _ x.num _ (I1.o.below (ae j.o F.o.drew (ψ i.o))) sx.o).mono ?_;rintro e w1 ⟨⟨v1,rfl,C⟩,A⟩
      have V1:=O C;have u:Hid (Bl W w1):=ae F.o.drew A ρ;obtain⟨s3,a3,n3,c3,d3,rfl,-⟩:=C;obtain⟨y0,y1,y2,y3,y4⟩:=(J.o.below u.o (ψ i.o)).four;clear A))
 go_wp2;have Q:=J.o.below u.o (ψ i.o)
 exact aK results195 (w.heap.size+1) (Q.set4 (.bool s3) (.slice a3 n3 c3) (.bool s2) (.slice G H c2)) _ rfl underlying55 rfl bD rfl
  ⟨⟨_,rfl,ak.store4 (q:=-x) ⟨_,_,_,_,_,_,_,_,d,rfl,V1.o,I2.o.below (ae j.o u.o (ψ i.o)),HD.o⟩ Q _ _ _ _⟩,aW (ae j.o u.o (ψ i.o)) I _ _ _ _⟩
theorem cmpR_def(x y:Rat):dp (x.num*y.den) (y.num*x.den)=if x<y then -1 else if y<x then 1 else 0:=by
 unfold dp;simp only[Rat.lt_iff]
def dr(x y:Rat):Int:=if x<y then -1 else if y<x then 1 else 0
theorem start2(w:World)(G H:Value)(x y:Rat)(ha:ak w G x)(hb:ak w H y)(t1 t2:TypeId):
 ∃s1 e j c1 s2 A E c2 s3 i u c3 s4 C F c4,G=.agg #[.bool s1,.slice e j c1,.bool s2,.slice A E c2]/\H=.agg #[.bool s3,.slice i u c3,.bool s4,.slice C F c4] /\
  aO w (.agg #[.bool s1,.slice e j c1]) x.num/\aO w (.agg #[.bool s3,.slice i u c3]) y.num /\
  ak w (.agg #[.bool s1,.slice e j c1,.bool s2,.slice A E c2]) x/\ak w (.agg #[.bool s3,.slice i u c3,.bool s4,.slice C F c4]) y /\
  ∃W,(w.alloc (.cells #[.bool s1,.slice e j c1,.bool s2,.slice A E c2] t1)).alloc (.cells #[.bool s3,.slice i u c3,.bool s4,.slice C F c4] t2)=W /\
   Box W w.heap.size #[.bool s1,.slice e j c1,.bool s2,.slice A E c2] t1/\Box W (w.heap.size+1) #[.bool s3,.slice i u c3,.bool s4,.slice C F c4] t2/\Bl w W/\W.heap.size=w.heap.size+2:=by
 obtain⟨s1,e,j,c1,s2,A,E,c2,d1,rfl,Q,U,J⟩:=ha.open;obtain⟨s3,i,u,c3,s4,C,F,c4,d2,rfl,R,X,L⟩:=hb.open;exact⟨s1,e,j,c1,s2,A,E,c2,s3,i,u,c3,s4,C,F,c4,rfl,rfl,Q,R,ha,hb,bU w _ _ t1 t2⟩
theorem cj(va vb:Value)(x y:Rat)(k l:Nat)(w:World)(ha:ak w va x)(hb:ak w vb y)(J:Bd k x)(L:Bd l y)(h1:k+l<=1000000):
 Calls prog 20 #[va,vb] w fun e w'=>e=.returned (.int .i64 (dr x y))/\Bl w w':=by
 obtain⟨s1,a1,n1,c1,s2,a2,n2,c2,s3,a3,n3,c3,s4,a4,n4,c4,rfl,rfl,i1,i3,ra,rb,W,hW,b1,b2,hB,hS⟩:=start2 w va vb x y ha hb 55 55;obtain⟨I1,I2,R1,R2,BX,BY,B1,Q,j⟩:=η9 i1 i3 ra rb J L b1 b2 hB;obtain⟨i,HW,sx,sy,ao,ap⟩:=η6 hS hW (J.num I) (L.num I) (J.den I) (L.den I);have ar:Hid (Small (x.num*y.den)):=⟨k+l,h1,by rw[Int.natAbs_mul];exact Bd.pow_mul J.1 L.2⟩;have au:Hid (Small (y.num*x.den)):=⟨k+l,h1,by rw[Int.natAbs_mul,show k+l=l+k from by omega];exact Bd.pow_mul L.1 J.2⟩;obtain⟨x0,x1,x2,x3,x4⟩:=b1.four;obtain⟨y0,y1,y2,y3,y4⟩:=b2.four;have Y:k<=1000000:=I;have aa:l<=1000000:=I;clear ha hb i1 i3 ra rb J L b1 b2 hB hS h1
 go_enter func20,ntmps20
 go_upto_region 1 with fail
 obtain⟨xb,ag⟩:∃b,decide (x.den=1)=b:=ξ;obtain⟨yb,an⟩:∃b,decide (y.den=1)=b:=ξ
 go_cut [10] from 5 to 11 (fun v wx=>v=.bool (xb&&yb)/\Hid (Bl W wx))
 case first =>
  go_wp2_with fail
  refine(fJ _ x k _ (R1.o.below j.o) BX.o Y).mono ?_;rw[ag];rintro e w1 ⟨rfl,C⟩;have F:=O C;clear C;cases xb
  ·go_wp2_with fail
   go_meet;exact⟨rfl,F⟩
  obtain⟨z0,z1,z2,z3,z4⟩:=(Q.o.below F.o (ψ i.o)).four
  go_wp2_with fail
  refine(fJ _ y l _ (R2.o.below (ae j.o F.o (ψ i.o))) BY.o aa).mono ?_;rw[an];rintro e w2 ⟨rfl,E⟩;have A:Hid (Bl W w2):=ae F.o E ρ;clear E
  go_wp2_with fail
  go_meet;exact⟨rfl,A⟩
 case rest =>
  obtain⟨rfl,L0⟩:=hcut;obtain⟨w0,rfl⟩:=φ wc;cases hbb:xb&&yb
  ·have HC:Hid (dp (x.num*y.den) (y.num*x.den)=dr x y):=cmpR_def x y
   go_upto_region 3 with fail
   go_region_held3 (fun w'=>w'.cell? ⟨w.heap.size,0,none⟩=some (.bool s1)/\w'.cell? ⟨w.heap.size,1,none⟩=some (.slice a1 n1 c1)/\w'.cell? ⟨w.heap.size,2,none⟩=some (.bool s2)/\w'.cell? ⟨w.heap.size,3,none⟩=some (.slice a2 n2 c2)/\w'.cell? ⟨w.heap.size+1,0,none⟩=some (.bool s3)/\w'.cell? ⟨w.heap.size+1,1,none⟩=some (.slice a3 n3 c3)/\w'.cell? ⟨w.heap.size+1,2,none⟩=some (.bool s4)/\w'.cell? ⟨w.heap.size+1,3,none⟩=some (.slice a4 n4 c4))
    (first
     | with_reducible exact(iq B1.o Q.o L5.o (ψ i.o) (ψ i.o))
     | with_reducible exact(iq B1.o Q.o (Hid.o (by assumption)) (ψ i.o) (ψ i.o))
     | with_reducible exact(iq B1.o Q.o L0.o.drew (ψ i.o) (ψ i.o)))
    (first
     | (have G:=L4.o;clear G;go_at_call 67;refine(fp _ _ (x.num*y.den) (y.num*x.den) _ U.o V4.o ar.o au.o).mono ?_;rw[HC.o];rintro e w5 ⟨rfl,X⟩
        have L5:Hid (Bl W w5):=ae L4.o X ρ;clear X)
     | (have G:=R.o;clear G;go_at_call 68;refine(fG _ _ y.num x.den _ (I2.o.below (ae j.o R.o (ψ i.o))) V3.o sy.o ao.o).mono ?_;rintro e w4 ⟨⟨v4,rfl,af⟩,H⟩
        have V4:=O af;replace U:=O (U.o.below H);have L4:Hid (Bl W w4):=ae R.o H ρ;clear H af)
     | (have G:=A.o;clear G;go_at_call 69;refine(eV _ x k _ (R1.o.below (ae j.o A.o (ψ i.o))) BX.o Y).mono ?_;rintro e w3 ⟨⟨v3,rfl,ad⟩,u⟩
        have V3:=O ad;replace U:=O (U.o.below u);have R:Hid (Bl W w3):=ae A.o u ρ;clear u ad)
     | (have G:=F.o;clear G;go_at_call 68;refine(fG _ _ x.num y.den _ (I1.o.below (ae j.o F.o (ψ i.o))) V1.o sx.o ap.o).mono ?_;rintro e w2 ⟨⟨v2,rfl,ac⟩,E⟩
        have U:=O ac;have A:Hid (Bl W w2):=ae F.o E ρ;clear E ac)
     | (go_at_call 69;refine(eV _ y l _ (R2.o.below (ae j.o L0.o.drew (ψ i.o))) BY.o aa).mono ?_;rintro e w1 ⟨⟨v1,rfl,ab⟩,C⟩
        have V1:=O ab;have F:Hid (Bl W w1):=ae L0.o.drew C ρ;clear C ab))
   go_wp2;exact bodyPost_ret (results_tmp results20 _ _ _) rfl ⟨rfl,ae j.o L5.o (ψ i.o)⟩
  ·have A:=L0
   simp only[Bool.and_eq_true]at hbb;have hx:x.den=1:=of_decide_eq_true (ag.trans hbb.1);have hy:y.den=1:=of_decide_eq_true (an.trans hbb.2);have hc:dp x.num y.num=dr x y:=by have:=cmpR_def x y;rw[hx,hy]at this;simpa[dr]using this
   have HC:=O hc;obtain⟨u0,u1,u2,u3,u4⟩:=(Q.o.below A.o (ψ i.o)).four;obtain⟨v0,v1,v2,v3,v4⟩:=(B1.o.below A.o (ψ i.o)).four
   go_wp2_with fail
   refine(fp _ _ x.num y.num _ (I1.o.below (ae j.o A.o (ψ i.o))) (I2.o.below (ae j.o A.o (ψ i.o))) sx.o sy.o).mono ?_;rw[HC.o];rintro e w3 ⟨rfl,u⟩;have R:=O (ae A.o u ρ);clear u;go_wp2;exact bodyPost_ret (results_tmp results20 _ _ _) rfl ⟨rfl,ae j.o R.o (ψ i.o)⟩
theorem keep2{W w':World}{n e:Nat}{a b:Value}{t1:TypeId}(b1:Box W e #[a,b] t1)(h:Below n W w')(i:e<n):
 w'.cell? ⟨e,0,.none⟩=.some a/\w'.cell? ⟨e,1,.none⟩=.some b:=⟨(b1.below h i).cell 0,(b1.below h i).cell 1⟩
theorem cmpZ_neg{y c:Int}(h:dp y 0=c)(hc:c<0):y<0:=by
 unfold dp at h
 split at h
 ·assumption
 ·split at h<;>omega
def RedI(w X:World)(s1:Bool)(a1:Option Addr)(n1 c1:Nat)(s2:Bool)(a2:Option Addr)(n2 c2:Nat)(p q:Int):Prop:=
 Box X w.heap.size #[.bool s1,.slice a1 n1 c1] 53/\Box X (w.heap.size+1) #[.bool s2,.slice a2 n2 c2] 53/\Box X (w.heap.size+2) #[.bool false,.slice none 0 0,.bool false,.slice none 0 0] 55 /\
 aO X (.agg #[.bool s1,.slice a1 n1 c1]) p/\aO X (.agg #[.bool s2,.slice a2 n2 c2]) q/\Bl w X
theorem redI_set{w X:World}{s1 s2 s3 s4:Bool}{F G u C:Option Addr}{Q c1 R c2 A c3 E c4:Nat}{p q:Int}(b1:Box X w.heap.size #[.bool s1,.slice F Q c1] 53)(b2:Box X (w.heap.size+1) #[.bool s2,.slice G R c2] 53)(H:Box X (w.heap.size+2) #[.bool false,.slice none 0 0,.bool false,.slice none 0 0] 55)(J:aO X (.agg #[.bool s3,.slice u A c3]) p)(L:aO X (.agg #[.bool s4,.slice C E c4]) q)(hb:Bl w X):
 RedI w ((((X.setCell ⟨w.heap.size,0,none⟩ (.bool s3)).setCell ⟨w.heap.size,1,none⟩ (.slice u A c3)).setCell ⟨w.heap.size+1,0,none⟩ (.bool s4)).setCell ⟨w.heap.size+1,1,none⟩ (.slice C E c4)) s3 u A c3 s4 C E c4 p q:=by
 have e:=b2.other2 (g':=w.heap.size) (i:=0) (j:=1) I (.bool s3) (.slice u A c3);exact⟨(b1.set2 (.bool s3) (.slice u A c3)).other2 I _ _,e.set2 (.bool s4) (.slice C E c4),(H.other2 I _ _).other2 I _ _,
  (J.store2 b1 _ _).store2 e _ _,(L.store2 b1 _ _).store2 e _ _,aM (aM hb ρ _ _) I _ _⟩
theorem iE(va vb:Value)(x y:Int)(w:World)(ha:aO w va x)(hb:aO w vb y)(sx:Small x)(sy:Small y)(hy:y≠0):
 Calls prog 73 #[va,vb] w fun e w'=>eh w' e (Rat.divInt x y)/\Bl w w':=by
 obtain⟨I1,I2⟩:=η2 ha hb;obtain⟨s1,a1,n1,c1,d1,rfl,-⟩:=ha;obtain⟨s2,a2,n2,c2,d2,rfl,-⟩:=hb;obtain⟨W,hW,b1,b2,b3,hB,hS⟩:=cC w #[.bool s1,.slice a1 n1 c1] #[.bool s2,.slice a2 n2 c2] #[.bool false,.slice none 0 0,.bool false,.slice none 0 0] 53 53 55;obtain⟨B1,B2,B3,A,u⟩:=η5 b1 b2 b3 hB hS;obtain⟨x0,x1,x2,x3⟩:=b1.two;obtain⟨y0,y1,y2,y3⟩:=b2.two;obtain⟨sx,sy⟩:=η2 sx sy;clear b1 b2 b3 hB hS
 go_enter func73,ntmps73
 go_upto_if 8 with fail
 refine(fE _ y _ (I2.o.below A.o) sy.o).mono ?_;obtain⟨c,hc⟩:=χ (dp y 0);rw[hc];have HC:=O hc;rintro e w0 ⟨rfl,ap⟩;have H:=O ap;clear ap hW x0 x1 x2 x3 y0 y1 y2 y3 hc
 go_upto_if 8 with fail
 go_cut [] from 5 to 36 (fun wx=>∃s1 a1 n1 c1 s2 a2 n2 c2,RedI w wx s1 a1 n1 c1 s2 a2 n2 c2 (y.sign*x) y.natAbs)
 case first =>
  by_cases R:c<0
  ·have bg:decide (c<0)=true:=decide_eq_true R
   obtain⟨x0,x1,x2,x3⟩:=(B1.o.below H.o (ψ u.o)).two;obtain⟨y0,y1,y2,y3⟩:=(B2.o.below H.o (ψ u.o)).two
   go_wp2_with fail
   go_region_with (first
    | (have _g:=L1.o;clear _g;go_at_call 111;refine(uf _ y _ (I2.o.below (ae A.o L1.o (ψ u.o))) sy.o).mono ?_;rintro e w2 ⟨⟨v2,rfl,a8⟩,ab⟩
       obtain⟨V2,V3⟩:=η2 a8 (V1.o.below ab);have L2:Hid (Bl W w2):=ae L1.o ab ρ;obtain⟨s4,a4,n4,c4,d4,rfl,-⟩:=a8;obtain⟨x0,x1,x2,x3⟩:=(B1.o.below L2.o (ψ u.o)).two;obtain⟨y0,y1,y2,y3⟩:=(B2.o.below L2.o (ψ u.o)).two;clear ab)
    | (go_at_call 111;refine(uf _ x _ (I1.o.below (ae A.o H.o.drew (ψ u.o))) sx.o).mono ?_;rintro e w1 ⟨⟨v1,rfl,U⟩,L⟩
       have V1:=O U;have L1:Hid (Bl W w1):=ae H.o.drew L ρ;obtain⟨s3,a3,n3,c3,d3,rfl,-⟩:=U;obtain⟨x0,x1,x2,x3⟩:=(B1.o.below L1.o (ψ u.o)).two;obtain⟨y0,y1,y2,y3⟩:=(B2.o.below L1.o (ψ u.o)).two;clear L))
   all_goals
    have ac:y<0:=cmpZ_neg HC.o R
    go_wp2_with fail
    go_meet;refine⟨s3,a3,n3,c3,s4,a4,n4,c4,redI_set (B1.o.below L2.o (ψ u.o)) (B2.o.below L2.o (ψ u.o)) (B3.o.below L2.o (ψ u.o)) ?_ ?_ (ae A.o L2.o (ψ u.o))⟩
    ·rw[Int.sign_eq_neg_one_of_neg ac,Int.neg_one_mul];exact V3.o
    ·rw[show((y.natAbs:Nat):Int)=-y from by omega];exact V2.o
  ·have bg:decide (c<0)=false:=decide_eq_false R
   have ac:0<y:=by
    have:=HC.o
    rcases Int.lt_trichotomy y 0 with h|h|h
    ·unfold dp at this;rw[if_pos h]at this;omega
    ·exact absurd h hy
    ·exact h
   go_wp2_with fail
   go_meet;refine⟨s1,a1,n1,c1,s2,a2,n2,c2,B1.o.below H.o (ψ u.o),B2.o.below H.o (ψ u.o),B3.o.below H.o (ψ u.o),?_,?_,ae A.o H.o (ψ u.o)⟩
   ·rw[Int.sign_eq_one_of_pos ac,Int.one_mul];exact I1.o.below (ae A.o H.o (ψ u.o))
   ·rw[show((y.natAbs:Nat):Int)=y from by omega];exact I2.o.below (ae A.o H.o (ψ u.o))
 case rest =>
  clear HC H B1 B2 B3 A u I1 I2;obtain⟨s1,a1,n1,c1,s2,a2,n2,c2,k1,k2,k3,j1,j2,lb⟩:=hcut;have sp:Hid (Small (y.sign*x)):=by obtain⟨k,h1,h2⟩:=sx.o;exact⟨k,h1,by rw[Int.natAbs_mul,Int.natAbs_sign_of_ne_zero hy,Nat.one_mul];exact h2⟩
  have sq:Hid (Small (y.natAbs:Int)):=by obtain⟨k,h1,h2⟩:=sy.o;exact⟨k,h1,by rw[Int.natAbs_natCast];exact h2⟩
  obtain⟨p,hp⟩:=χ (y.sign*x);have hg:Int.gcd p (y.natAbs:Int)=Int.gcd y x:=by rw[<-hp];simp[Int.gcd,Int.natAbs_mul,Int.natAbs_sign_of_ne_zero hy,Nat.gcd_comm]
  have a0:(0:Int)<(Int.gcd y x:Nat):=by have:=Int.gcd_pos_of_ne_zero_left x hy;omega
  have aw:((Int.gcd y x:Nat):Int)∣p:=by rw[<-hg];exact Int.gcd_dvd_left ..
  have ay:((Int.gcd y x:Nat):Int)∣(y.natAbs:Int):=by rw[<-hg];exact Int.gcd_dvd_right ..
  have F:(Rat.divInt x y).num=p / (Int.gcd y x:Nat):=by rw[Rat.num_divInt,hp]
  have E:((Rat.divInt x y).den:Int)=(y.natAbs:Int) / (Int.gcd y x:Nat):=by rw[Rat.den_divInt,if_neg hy];simp
  have sg:Hid (Small (Int.gcd y x:Nat)):=by
   obtain⟨k,h1,h2⟩:=sy.o;exact⟨k,h1,Nat.lt_of_le_of_lt (by rw[Int.natAbs_natCast];exact Nat.le_of_dvd I (Int.natAbs_dvd_natAbs.2 (Int.gcd_dvd_left ..))) h2⟩
  generalize Int.gcd y x=G at *;obtain⟨GP,D1,D2,HN,ad,HG,K1,K2,K3⟩:=η9 a0 aw ay F E hg k1 k2 k3;obtain⟨J1,J2,H⟩:=η3 j1 j2 lb;rw[hp]at sp;rw[hp]at J1;generalize(y.natAbs:Int)=q at *;obtain⟨x0,x1,x2,x3⟩:=k1.two;obtain⟨y0,y1,y2,y3⟩:=k2.two;clear a0 aw ay F E hg k1 k2 k3 j1 j2 lb hp
  go_wp2_with fail
  refine(oZ _ _ p q _ J1.o J2.o sp.o sq.o).mono ?_;rw[HG.o];rintro e w1 ⟨⟨v1,rfl,U⟩,L⟩;obtain⟨V1,L1⟩:=η2 U L;obtain⟨s5,a5,n5,c5,d5,rfl,-⟩:=U;clear L
  go_wp2_with fail
  obtain⟨X,hX⟩:=χ (w1.alloc (.cells #[.bool s5,.slice a5 n5 c5] 53));obtain⟨g5,Q⟩:∃g,g=w1.heap.size:=⟨_,rfl⟩;have ag:Bl wc X:=by rw[<-hX];exact L1.o.alloc (L1.o.size) _
  have af:Box X g5 #[.bool s5,.slice a5 n5 c5] 53:=by rw[<-hX];exact Box.new _ _ _ _ Q
  have ao:X.heap.size=g5+1:=by rw[<-hX,Q];simp
  have az:wc.heap.size<=g5:=by rw[Q];exact L1.o.size
  have an:aO X (.agg #[.bool s5,.slice a5 n5 c5]) G:=by rw[<-hX];exact V1.o.below (β.alloc ρ _)
  have HX:Hid (w1.alloc (.cells #[.bool s5,.slice a5 n5 c5] 53)=X):=hX;rw[HX.o];rw[<-Q];obtain⟨L2,B5,HS,aa,VG⟩:=η5 ag af ao az an;have LX:Hid (Bl X X):=Below.refl _ _;obtain⟨c,hc⟩:=χ (dp G 1);have HC:=O hc;clear HX hX ag af ao az an Q x0 x1 x2 x3 y0 y1 y2 y3 hc
  go_region_held3 (fun w'=>w'.cell? ⟨g5,0,none⟩=some (.bool s5)/\w'.cell? ⟨g5,1,none⟩=some (.slice a5 n5 c5))
   (first
    | with_reducible exact(keep2 B5.o L4.o (ψ HS.o))
    | with_reducible exact(keep2 B5.o L3.o (ψ HS.o))
    | with_reducible exact(keep2 B5.o LX.o.drew (ψ HS.o)))
   (first
    | (have _g:=L3.o;clear _g;go_at_call 67;refine(fp _ _ (G:Int) 1 _ (VG.o.below L3.o) V3.o sg.o rQ).mono ?_;rw[HC.o];rintro e w4 ⟨rfl,au⟩
       have L4:Hid (Bl X w4):=ae L3.o au ρ;clear au)
    | (go_at_call 103;refine(mm _).mono ?_;rintro e w3 ⟨⟨v3,rfl,a9⟩,ar⟩
       have V3:=O a9;have L3:Hid (Bl X w3):=ae β.drew ar ρ;clear ar a9))
  obtain⟨LL,G5⟩:=η2 (L2.o.trans (L4.o.mono L2.o.size)) (B5.o.below L4.o (ψ HS.o));obtain⟨G1,G2,G3,W1,W2,W5,WL⟩:=η7 (K1.o.to LL.o) (K2.o.to LL.o) (K3.o.to LL.o) (J1.o.below LL.o) (J2.o.below LL.o) (VG.o.below L4.o) (ae H.o LL.o (ψ K3.o.lt));obtain⟨x0,x1,x2,x3⟩:=G1.o.two;obtain⟨y0,y1,y2,y3⟩:=G2.o.two;obtain⟨z0,z1,z2,z3⟩:=G5.o.two;obtain⟨u0,u1,u2,u3,u4⟩:=G3.o.four;by_cases av:c=0
  ·obtain rfl:c=0:=av
   have be:G=1:=by have:=tO.1 HC.o;omega
   subst be;go_wp2;have F:=HN.o;have E:=ad.o;rw[Int.natCast_one,Int.ediv_one]at F E;exact aK results73 (w.heap.size+2) (G3.o.set4 (.bool s1) (.slice a1 n1 c1) (.bool s2) (.slice a2 n2 c2)) _ rfl underlying55 rfl bD rfl
    ⟨⟨_,rfl,ak.store4 (q:=Rat.divInt x y) ⟨_,_,_,_,_,_,_,_,q,rfl,by rw[F];exact W1.o,W2.o,Or.inl E.symm⟩ G3.o _ _ _ _⟩,aW WL.o I _ _ _ _⟩
  ·have bl:(c == 0)=false:=by rw[beq_eq_false_iff_ne];exact av
   go_wp2_with fail
   refine(mQ _ _ p G _ W1.o W5.o sp.o sg.o GP.o D1.o).mono ?_;rintro e w5 ⟨⟨v5,u5,rfl,ba⟩,C⟩;obtain⟨V5,M1,M2,M3,M5,N2,N5,NL⟩:=η8 ba (G1.o.to C) (G2.o.to C) (G3.o.to C) (G5.o.to C) (W2.o.below C) (W5.o.below C) (ae WL.o C ρ);have bf:g5≠w.heap.size:=by have:=K3.o.lt;have:=aa.o;omega
   have bi:g5≠w.heap.size+1:=by have:=K3.o.lt;have:=aa.o;omega
   have bk:g5≠w.heap.size+2:=by have:=K3.o.lt;have:=aa.o;omega
   obtain⟨s6,a6,n6,c6,d6,rfl,-⟩:=ba;clear C x0 x1 x2 x3 y0 y1 y2 y3 z0 z1 z2 z3 u0 u1 u2 u3 u4 G1 G2 G3 G5 W1 W2 W5 WL;obtain⟨x0,x1,x2,x3⟩:=M1.o.two;obtain⟨y0,y1,y2,y3⟩:=M2.o.two;obtain⟨z0,z1,z2,z3⟩:=M5.o.two;obtain⟨Y,hY⟩:=χ ((w5.setCell ⟨w.heap.size,0,none⟩ (.bool s6)).setCell ⟨w.heap.size,1,none⟩ (.slice a6 n6 c6));have t1:Box Y w.heap.size #[.bool s6,.slice a6 n6 c6] 53:=hY▸M1.o.set2 _ _;have t2:Box Y (w.heap.size+1) #[.bool s2,.slice a2 n2 c2] 53:=hY▸M2.o.other2 I _ _;have t3:Box Y (w.heap.size+2) #[.bool false,.slice none 0 0,.bool false,.slice none 0 0] 55:=hY▸M3.o.other2 I _ _;have t5:Box Y g5 #[.bool s5,.slice a5 n5 c5] 53:=hY▸M5.o.other2 bf _ _;have r1:aO Y (.agg #[.bool s6,.slice a6 n6 c6]) (p / G):=hY▸V5.o.store2 M1.o _ _;have r2:aO Y (.agg #[.bool s2,.slice a2 n2 c2]) q:=hY▸N2.o.store2 M1.o _ _;have r5:aO Y (.agg #[.bool s5,.slice a5 n5 c5]) G:=hY▸N5.o.store2 M1.o _ _;have tl:Bl w Y:=hY▸aM NL.o ρ _ _;obtain⟨HY,T1,T2,T3,T5,R1,R2,R5,TL⟩:=η9 hY t1 t2 t3 t5 r1 r2 r5 tl;clear hY t1 t2 t3 t5 r1 r2 r5 tl
   go_wp2_with fail
   rw[HY.o];refine(mQ _ _ q G _ R2.o R5.o sq.o sg.o GP.o D2.o).mono ?_;rintro e w6 ⟨⟨v6,bm,rfl,bc⟩,J⟩;obtain⟨V6,E1,E2,E3,E5,EL⟩:=η6 bc (T1.o.to J) (T2.o.to J) (T3.o.to J) (R1.o.below J) (ae TL.o J ρ);obtain⟨s7,a7,n7,c7,d7,rfl,-⟩:=bc;clear J x0 x1 x2 x3 y0 y1 y2 y3 z0 z1 z2 z3 HY T1 T2 T3 T5 R1 R2 R5 TL M1 M2 M3 M5;obtain⟨x0,x1,x2,x3⟩:=E1.o.two;obtain⟨y0,y1,y2,y3⟩:=E2.o.two;obtain⟨z0,z1,z2,z3,z4⟩:=E3.o.four;go_wp2;have b3:=E3.o.other2 (g':=w.heap.size+1) (i:=0) (j:=1) I (.bool s7) (.slice a7 n7 c7);exact aK results73 (w.heap.size+2) (b3.set4 (.bool s6) (.slice a6 n6 c6) (.bool s7) (.slice a7 n7 c7)) _ rfl underlying55 rfl bD rfl
    ⟨⟨_,rfl,ak.store4 (q:=Rat.divInt x y) ⟨_,_,_,_,_,_,_,_,q / G,rfl,by rw[HN.o];exact E5.o.store2 E2.o _ _,V6.o.store2 E2.o _ _,Or.inl ad.o.symm⟩ b3 _ _ _ _⟩,aW (aM EL.o I _ _) I _ _ _ _⟩
theorem lJ(z:Int):Rat.divInt z 1=(z:Rat):=by
 refine Rat.ext ?_ ?_
 ·rw[Rat.num_divInt];simp
 ·rw[Rat.den_divInt];simp
theorem tj(w:World)(G H:Value)(x y:Rat)(ha:ak w G x)(hb:ak w H y)(t1 t2 t3:TypeId):
 ∃s1 e j c1 s2 A E c2 s3 i u c3 s4 C F c4,G=.agg #[.bool s1,.slice e j c1,.bool s2,.slice A E c2]/\H=.agg #[.bool s3,.slice i u c3,.bool s4,.slice C F c4] /\
  aO w (.agg #[.bool s1,.slice e j c1]) x.num/\aO w (.agg #[.bool s3,.slice i u c3]) y.num /\
  ak w (.agg #[.bool s1,.slice e j c1,.bool s2,.slice A E c2]) x/\ak w (.agg #[.bool s3,.slice i u c3,.bool s4,.slice C F c4]) y /\
  ∃W,((w.alloc (.cells #[.bool s1,.slice e j c1,.bool s2,.slice A E c2] t1)).alloc (.cells #[.bool s3,.slice i u c3,.bool s4,.slice C F c4] t2)).alloc (.cells #[.bool false,.slice none 0 0,.bool false,.slice none 0 0] t3)=W /\
   Box W w.heap.size #[.bool s1,.slice e j c1,.bool s2,.slice A E c2] t1/\Box W (w.heap.size+1) #[.bool s3,.slice i u c3,.bool s4,.slice C F c4] t2/\Box W (w.heap.size+2) #[.bool false,.slice none 0 0,.bool false,.slice none 0 0] t3/\Bl w W/\W.heap.size=w.heap.size+3:=by
 obtain⟨s1,e,j,c1,s2,A,E,c2,d1,rfl,Q,U,J⟩:=ha.open;obtain⟨s3,i,u,c3,s4,C,F,c4,d2,rfl,R,X,L⟩:=hb.open;exact⟨s1,e,j,c1,s2,A,E,c2,s3,i,u,c3,s4,C,F,c4,rfl,rfl,Q,R,ha,hb,cC w _ _ _ t1 t2 t3⟩
theorem gM(va vb:Value)(x y:Rat)(k l:Nat)(w:World)(ha:ak w va x)(hb:ak w vb y)(Y:Bd k x)(hl:Bd l y)(h1:k+l<1000000):
 Calls prog 25 #[va,vb] w fun e w'=>eh w' e (x+y)/\Bl w w':=by
 obtain⟨s1,a1,n1,c1,s2,a2,n2,c2,s3,a3,n3,c3,s4,a4,n4,c4,rfl,rfl,i1,i3,ra,rb,W,hW,b1,b2,b3,hB,hS⟩:=tj w va vb x y ha hb 55 55 55;obtain⟨I1,I2,R1,R2,BX,BY,B1,B2,B3⟩:=η9 i1 i3 ra rb Y hl b1 b2 b3;obtain⟨j,i,HW,sx,sy,a8,a9⟩:=η7 hB hS hW (Y.num I) (hl.num I) (Y.den I) (hl.den I);have hq:((x.den:Int)*y.den:Int)≠0:=by have h1:=x.den_pos;have h2:=y.den_pos;have:=Nat.mul_pos h1 h2;rw[<-Int.natCast_mul];omega
 have af:((x.den:Int)*y.den:Int).natAbs<B ^ (k+l+1):=by
  rw[Int.natAbs_mul];exact Nat.lt_of_lt_of_le (Bd.pow_mul Y.2 hl.2) (Nat.pow_le_pow_right (by unfold B;omega) I)
 have sq:Hid (Small ((x.den:Int)*y.den)):=⟨k+l+1,by omega,af⟩;have az:(x.num*y.den).natAbs<B ^ (k+l):=by rw[Int.natAbs_mul];exact Bd.pow_mul Y.1 hl.2
 have a7:(y.num*x.den).natAbs<B ^ (k+l):=by rw[Int.natAbs_mul,show k+l=l+k from by omega];exact Bd.pow_mul hl.1 Y.2
 have ba:Hid (Small (x.num*y.den)):=⟨k+l,by omega,az⟩;have bc:Hid (Small (y.num*x.den)):=⟨k+l,by omega,a7⟩
 have sp:Hid (Small (x.num*y.den+y.num*x.den)):=⟨k+l+1,by omega,by
  have h4:B ^ (k+l+1)=B ^ (k+l)*B:=Nat.pow_succ ..;have h5:B ^ (k+l)*2<=B ^ (k+l)*B:=Nat.mul_le_mul_left _ (by unfold B;omega);exact Nat.lt_of_le_of_lt (Int.natAbs_add_le _ _) I⟩
 clear az a7;have HC:Hid (Rat.divInt (x.num*y.den+y.num*x.den) ((x.den:Int)*y.den)=x+y):=by
  unfold Hid;rw[lM];simp
 obtain⟨x0,x1,x2,x3,x4⟩:=b1.four;obtain⟨y0,y1,y2,y3,y4⟩:=b2.four;have aa:k<=1000000:=I;have ab:l<=1000000:=I;clear ha hb i1 i3 ra rb Y hl b1 b2 b3 hB hS h1 af
 go_enter func25,ntmps25
 go_upto_region 1 with fail
 obtain⟨xb,ay⟩:∃b,decide (x.den=1)=b:=ξ;obtain⟨yb,a0⟩:∃b,decide (y.den=1)=b:=ξ
 go_cut [10] from 5 to 11 (fun v wx=>v=.bool (xb&&yb)/\Hid (Bl W wx))
 case first =>
  go_wp2_with fail
  refine(fJ _ x k _ (R1.o.below j.o) BX.o aa).mono ?_;rw[ay];rintro e w1 ⟨rfl,E⟩;have J:=O E;clear E;cases xb
  ·go_wp2_with fail
   go_meet;exact⟨rfl,J⟩
  obtain⟨z0,z1,z2,z3,z4⟩:=(B2.o.below J.o (ψ i.o)).four
  go_wp2_with fail
  refine(fJ _ y l _ (R2.o.below (ae j.o J.o (ψ i.o))) BY.o ab).mono ?_;rw[a0];rintro e w2 ⟨rfl,F⟩;have C:Hid (Bl W w2):=ae J.o F ρ;clear F
  go_wp2_with fail
  go_meet;exact⟨rfl,C⟩
 case rest =>
  obtain⟨rfl,L0⟩:=hcut;obtain⟨w0,rfl⟩:=φ wc;cases hbb:xb&&yb
  ·go_upto_region 3 with fail
   go_region_held3 (fun w'=>w'.cell? ⟨w.heap.size,0,none⟩=some (.bool s1)/\w'.cell? ⟨w.heap.size,1,none⟩=some (.slice a1 n1 c1)/\w'.cell? ⟨w.heap.size,2,none⟩=some (.bool s2)/\w'.cell? ⟨w.heap.size,3,none⟩=some (.slice a2 n2 c2)/\w'.cell? ⟨w.heap.size+1,0,none⟩=some (.bool s3)/\w'.cell? ⟨w.heap.size+1,1,none⟩=some (.slice a3 n3 c3)/\w'.cell? ⟨w.heap.size+1,2,none⟩=some (.bool s4)/\w'.cell? ⟨w.heap.size+1,3,none⟩=some (.slice a4 n4 c4))
    (first
     | with_reducible exact(jy B1.o B2.o L9.o (ψ i.o) (ψ i.o) I I _ _ _ _)
     | with_reducible exact(iq B1.o B2.o (Hid.o (by assumption)) (ψ i.o) (ψ i.o))
     | with_reducible exact(iq B1.o B2.o L0.o.drew (ψ i.o) (ψ i.o)))
    (first
     | (have u:=L8.o;clear u;go_at_call 73;refine(iE _ _ (x.num*y.den+y.num*x.den) ((x.den:Int)*y.den) _ Q.o V8.o sp.o sq.o hq).mono ?_;rintro e w9 ⟨⟨v9,rfl,aw⟩,ad⟩
        have V9:=O aw;have L9:Hid (Bl W w9):=ae L8.o ad ρ;obtain⟨s5,a5,n5,c5,s6,a6,n6,c6,d5,rfl,-⟩:=aw;obtain⟨z0,z1,z2,z3,z4⟩:=(B3.o.below L9.o (ψ i.o)).four;clear ad)
     | (have u:=L7.o;clear u;go_at_call 68;refine(fG _ _ (x.den:Int) y.den _ V6.o V7.o a8.o a9.o).mono ?_;rintro e w8 ⟨⟨v8,rfl,av⟩,X⟩
        have V8:=O av;replace Q:=O (Q.o.below X);have L8:Hid (Bl W w8):=ae L7.o X ρ;clear X av)
     | (have u:=L6.o;clear u;go_at_call 69;refine(eV _ y l _ (R2.o.below (ae j.o L6.o (ψ i.o))) BY.o ab).mono ?_;rintro e w7 ⟨⟨v7,rfl,au⟩,H⟩
        have V7:=O au;replace Q:=O (Q.o.below H);replace V6:=O (V6.o.below H);have L7:Hid (Bl W w7):=ae L6.o H ρ;clear H au)
     | (have u:=L5.o;clear u;go_at_call 69;refine(eV _ x k _ (R1.o.below (ae j.o L5.o (ψ i.o))) BX.o aa).mono ?_;rintro e w6 ⟨⟨v6,rfl,ar⟩,U⟩
        have V6:=O ar;replace Q:=O (Q.o.below U);have L6:Hid (Bl W w6):=ae L5.o U ρ;clear U ar)
     | (have u:=L4.o;clear u;go_at_call 72;refine(Add_any _ _ (x.num*y.den) (y.num*x.den) _ V2.o V4.o ba.o bc.o).mono ?_;rintro e w5 ⟨⟨v5,rfl,ap⟩,ac⟩
        have Q:=O ap;have L5:Hid (Bl W w5):=ae L4.o ac ρ;clear ac ap)
     | (have u:=L.o;clear u;go_at_call 68;refine(fG _ _ y.num x.den _ (I2.o.below (ae j.o L.o (ψ i.o))) V3.o sy.o a8.o).mono ?_;rintro e w4 ⟨⟨v4,rfl,ao⟩,R⟩
        have V4:=O ao;replace V2:=O (V2.o.below R);have L4:Hid (Bl W w4):=ae L.o R ρ;clear R ao)
     | (have u:=C.o;clear u;go_at_call 69;refine(eV _ x k _ (R1.o.below (ae j.o C.o (ψ i.o))) BX.o aa).mono ?_;rintro e w3 ⟨⟨v3,rfl,G⟩,A⟩
        have V3:=O G;replace V2:=O (V2.o.below A);have L:Hid (Bl W w3):=ae C.o A ρ;clear A G)
     | (have u:=J.o;clear u;go_at_call 68;refine(fG _ _ x.num y.den _ (I1.o.below (ae j.o J.o (ψ i.o))) V1.o sx.o a9.o).mono ?_;rintro e w2 ⟨⟨v2,rfl,an⟩,F⟩
        have V2:=O an;have C:Hid (Bl W w2):=ae J.o F ρ;clear F an)
     | (go_at_call 69;refine(eV _ y l _ (R2.o.below (ae j.o L0.o.drew (ψ i.o))) BY.o ab).mono ?_;rintro e w1 ⟨⟨v1,rfl,ag⟩,E⟩
        have V1:=O ag;have J:Hid (Bl W w1):=ae L0.o.drew E ρ;clear E ag))
   go_wp2;have b4:=B3.o.below L9.o (ψ i.o)
   exact aK results25 (w.heap.size+2) (b4.set4 (.bool s5) (.slice a5 n5 c5) (.bool s6) (.slice a6 n6 c6)) _ rfl underlying55 rfl bD rfl
    ⟨⟨_,rfl,by have:=V9.o;rw[HC.o]at this;exact this.store4 b4 _ _ _ _⟩,aW (ae j.o L9.o (ψ i.o)) I _ _ _ _⟩
  ·have C:=L0
   simp only[Bool.and_eq_true]at hbb;have hx:x.den=1:=of_decide_eq_true (ay.trans hbb.1);have hy:y.den=1:=of_decide_eq_true (a0.trans hbb.2);have hc:((x.num+y.num:Int):Rat)=x+y:=by
    rw[lM,hx,hy,<-lJ];simp
   have HC:=O hc;obtain⟨u0,u1,u2,u3,u4⟩:=(B2.o.below C.o (ψ i.o)).four;obtain⟨v0,v1,v2,v3,v4⟩:=(B1.o.below C.o (ψ i.o)).four
   go_wp2_with fail
   refine(Add_any _ _ x.num y.num _ (I1.o.below (ae j.o C.o (ψ i.o))) (I2.o.below (ae j.o C.o (ψ i.o))) sx.o sy.o).mono ?_;rintro e w3 ⟨⟨v3,rfl,G⟩,A⟩;obtain⟨V3,L⟩:=η2 G (ae C.o A ρ);obtain⟨s5,a5,n5,c5,d5,rfl,-⟩:=G;obtain⟨t0,t1,t2,t3,t4⟩:=(B3.o.below L.o (ψ i.o)).four;clear A;go_wp2;have b4:=B3.o.below L.o (ψ i.o);exact aK results25 (w.heap.size+2) (b4.set4 (.bool s5) (.slice a5 n5 c5) (.bool false) (.slice none 0 0)) _ rfl underlying55 rfl bD rfl
    ⟨⟨_,rfl,by rw[<-HC.o];exact(kG V3.o).store4 b4 _ _ _ _⟩,aW (ae j.o L.o (ψ i.o)) I _ _ _ _⟩
theorem dE(va vb:Value)(x y:Rat)(k l:Nat)(w:World)(ha:ak w va x)(hb:ak w vb y)(R:Bd k x)(U:Bd l y)(h1:k+l<1000000):
 Calls prog 31 #[va,vb] w fun e w'=>eh w' e (x*y)/\Bl w w':=by
 obtain⟨s1,a1,n1,c1,s2,a2,n2,c2,s3,a3,n3,c3,s4,a4,n4,c4,rfl,rfl,i1,i3,ra,rb,W,hW,b1,b2,b3,hB,hS⟩:=tj w va vb x y ha hb 55 55 55;obtain⟨I1,I2,R1,R2,BX,BY,B1,X,B3⟩:=η9 i1 i3 ra rb R U b1 b2 b3;obtain⟨j,i,HW,sx,sy,au,av⟩:=η7 hB hS hW (R.num I) (U.num I) (R.den I) (U.den I);have hq:((x.den:Int)*y.den:Int)≠0:=by have h1:=x.den_pos;have h2:=y.den_pos;have:=Nat.mul_pos h1 h2;rw[<-Int.natCast_mul];omega
 have ad:((x.den:Int)*y.den:Int).natAbs<B ^ (k+l+1):=by
  rw[Int.natAbs_mul];exact Nat.lt_of_lt_of_le (Bd.pow_mul R.2 U.2) (Nat.pow_le_pow_right (by unfold B;omega) I)
 have sq:Hid (Small ((x.den:Int)*y.den)):=⟨k+l+1,by omega,ad⟩;have sp:Hid (Small (x.num*y.num)):=⟨k+l,by omega,by rw[Int.natAbs_mul];exact Bd.pow_mul R.1 U.1⟩;have HC:Hid (Rat.divInt (x.num*y.num) ((x.den:Int)*y.den)=x*y):=by
  unfold Hid;rw[lB];simp
 obtain⟨x0,x1,x2,x3,x4⟩:=b1.four;obtain⟨y0,y1,y2,y3,y4⟩:=b2.four;have ab:k<=1000000:=I;have ac:l<=1000000:=I;clear ha hb i1 i3 ra rb R U b1 b2 b3 hB hS h1 ad
 go_enter func31,ntmps31
 go_upto_region 1 with fail
 obtain⟨xb,ap⟩:∃b,decide (x.den=1)=b:=ξ;obtain⟨yb,ar⟩:∃b,decide (y.den=1)=b:=ξ
 go_cut [10] from 5 to 11 (fun v wx=>v=.bool (xb&&yb)/\Hid (Bl W wx))
 case first =>
  go_wp2_with fail
  refine(fJ _ x k _ (R1.o.below j.o) BX.o ab).mono ?_;rw[ap];rintro e w1 ⟨rfl,E⟩;have G:=O E;clear E;cases xb
  ·go_wp2_with fail
   go_meet;exact⟨rfl,G⟩
  obtain⟨z0,z1,z2,z3,z4⟩:=(X.o.below G.o (ψ i.o)).four
  go_wp2_with fail
  refine(fJ _ y l _ (R2.o.below (ae j.o G.o (ψ i.o))) BY.o ac).mono ?_;rw[ar];rintro e w2 ⟨rfl,A⟩;have C:Hid (Bl W w2):=ae G.o A ρ;clear A
  go_wp2_with fail
  go_meet;exact⟨rfl,C⟩
 case rest =>
  obtain⟨rfl,Y⟩:=hcut;obtain⟨w0,rfl⟩:=φ wc;cases hbb:xb&&yb
  ·go_upto_region 3 with fail
   go_region_held3 (fun w'=>w'.cell? ⟨w.heap.size,0,none⟩=some (.bool s1)/\w'.cell? ⟨w.heap.size,1,none⟩=some (.slice a1 n1 c1)/\w'.cell? ⟨w.heap.size,2,none⟩=some (.bool s2)/\w'.cell? ⟨w.heap.size,3,none⟩=some (.slice a2 n2 c2)/\w'.cell? ⟨w.heap.size+1,0,none⟩=some (.bool s3)/\w'.cell? ⟨w.heap.size+1,1,none⟩=some (.slice a3 n3 c3)/\w'.cell? ⟨w.heap.size+1,2,none⟩=some (.bool s4)/\w'.cell? ⟨w.heap.size+1,3,none⟩=some (.slice a4 n4 c4))
    (first
     | with_reducible exact(jy B1.o X.o L5.o (ψ i.o) (ψ i.o) I I _ _ _ _)
     | with_reducible exact(iq B1.o X.o (Hid.o (by assumption)) (ψ i.o) (ψ i.o))
     | with_reducible exact(iq B1.o X.o Y.o.drew (ψ i.o) (ψ i.o)))
    (first
     | (have J:=L4.o;clear J;go_at_call 73;refine(iE _ _ (x.num*y.num) ((x.den:Int)*y.den) _ H.o V4.o sp.o sq.o hq).mono ?_;rintro e w5 ⟨⟨v5,rfl,ao⟩,aa⟩
        have V5:=O ao;have L5:Hid (Bl W w5):=ae L4.o aa ρ;obtain⟨s5,a5,n5,c5,s6,a6,n6,c6,d5,rfl,-⟩:=ao;obtain⟨z0,z1,z2,z3,z4⟩:=(B3.o.below L5.o (ψ i.o)).four;clear aa)
     | (have J:=Q.o;clear J;go_at_call 68;refine(fG _ _ (x.den:Int) y.den _ V2.o V3.o au.o av.o).mono ?_;rintro e w4 ⟨⟨v4,rfl,an⟩,L⟩
        have V4:=O an;replace H:=O (H.o.below L);have L4:Hid (Bl W w4):=ae Q.o L ρ;clear L an)
     | (have J:=C.o;clear J;go_at_call 69;refine(eV _ y l _ (R2.o.below (ae j.o C.o (ψ i.o))) BY.o ac).mono ?_;rintro e w3 ⟨⟨v3,rfl,F⟩,u⟩
        have V3:=O F;replace H:=O (H.o.below u);replace V2:=O (V2.o.below u);have Q:Hid (Bl W w3):=ae C.o u ρ;clear u F)
     | (have J:=G.o;clear J;go_at_call 69;refine(eV _ x k _ (R1.o.below (ae j.o G.o (ψ i.o))) BX.o ab).mono ?_;rintro e w2 ⟨⟨v2,rfl,ag⟩,A⟩
        have V2:=O ag;replace H:=O (H.o.below A);have C:Hid (Bl W w2):=ae G.o A ρ;clear A ag)
     | (go_at_call 68;refine(fG _ _ x.num y.num _ (I1.o.below (ae j.o Y.o.drew (ψ i.o))) (I2.o.below (ae j.o Y.o.drew (ψ i.o))) sx.o sy.o).mono ?_;rintro e w1 ⟨⟨v1,rfl,af⟩,E⟩
        have H:=O af;have G:Hid (Bl W w1):=ae Y.o.drew E ρ;clear E af))
   go_wp2;have b4:=B3.o.below L5.o (ψ i.o)
   exact aK results31 (w.heap.size+2) (b4.set4 (.bool s5) (.slice a5 n5 c5) (.bool s6) (.slice a6 n6 c6)) _ rfl underlying55 rfl bD rfl
    ⟨⟨_,rfl,by have:=V5.o;rw[HC.o]at this;exact this.store4 b4 _ _ _ _⟩,aW (ae j.o L5.o (ψ i.o)) I _ _ _ _⟩
  ·have C:=Y
   simp only[Bool.and_eq_true]at hbb;have hx:x.den=1:=of_decide_eq_true (ap.trans hbb.1);have hy:y.den=1:=of_decide_eq_true (ar.trans hbb.2);have hc:((x.num*y.num:Int):Rat)=x*y:=by
    rw[lB,hx,hy,<-lJ];simp
   have HC:=O hc;obtain⟨u0,u1,u2,u3,u4⟩:=(X.o.below C.o (ψ i.o)).four;obtain⟨v0,v1,v2,v3,v4⟩:=(B1.o.below C.o (ψ i.o)).four
   go_wp2_with fail
   refine(fG _ _ x.num y.num _ (I1.o.below (ae j.o C.o (ψ i.o))) (I2.o.below (ae j.o C.o (ψ i.o))) sx.o sy.o).mono ?_;rintro e w3 ⟨⟨v3,rfl,F⟩,u⟩;obtain⟨V3,Q⟩:=η2 F (ae C.o u ρ);obtain⟨s5,a5,n5,c5,d5,rfl,-⟩:=F;obtain⟨t0,t1,t2,t3,t4⟩:=(B3.o.below Q.o (ψ i.o)).four;clear u;go_wp2;have b4:=B3.o.below Q.o (ψ i.o);exact aK results31 (w.heap.size+2) (b4.set4 (.bool s5) (.slice a5 n5 c5) (.bool false) (.slice none 0 0)) _ rfl underlying55 rfl bD rfl
    ⟨⟨_,rfl,by rw[<-HC.o];exact(kG V3.o).store4 b4 _ _ _ _⟩,aW (ae j.o Q.o (ψ i.o)) I _ _ _ _⟩
theorem jm(X Y:Value)(x y:Rat)(k l:Nat)(w:World)(ha:ak w X x)(hb:ak w Y y)(H:Bd k x)(C:Bd l y)(h1:k+l<1000000):
 Calls prog 154 #[X,Y] w fun e w'=>eh w' e (x-y)/\Bl w w':=by
 obtain⟨s1,a1,n1,c1,s2,a2,n2,c2,s3,a3,n3,c3,s4,a4,n4,c4,rfl,rfl,i1,i3,ra,rb,W,hW,b1,b2,b3,hB,hS⟩:=tj w X Y x y ha hb 55 55 55;obtain⟨I1,I2,R1,R2,BX,BY,J,L,B3⟩:=η9 i1 i3 ra rb H C b1 b2 b3;obtain⟨j,i,HW,sx,sy,ab,ac⟩:=η7 hB hS hW (H.num I) (C.num I) (H.den I) (C.den I);have aa:k<=1000000:=I;have U:l<=1000000:=I;obtain⟨Q,BN,HK⟩:=η3 (jK W) C.neg h1;clear ha hb i1 i3 ra rb H C b1 b2 b3 hB hS hW h1
 go_enter func154,ntmps154
 go_wp2_with fail
 rw[HW.o]
 go_region_held3 (fun w'=>w'.cell? ⟨w.heap.size,0,none⟩=some (.bool s1)/\w'.cell? ⟨w.heap.size,1,none⟩=some (.slice a1 n1 c1)/\w'.cell? ⟨w.heap.size,2,none⟩=some (.bool s2)/\w'.cell? ⟨w.heap.size,3,none⟩=some (.slice a2 n2 c2)/\w'.cell? ⟨w.heap.size+1,0,none⟩=some (.bool s3)/\w'.cell? ⟨w.heap.size+1,1,none⟩=some (.slice a3 n3 c3)/\w'.cell? ⟨w.heap.size+1,2,none⟩=some (.bool s4)/\w'.cell? ⟨w.heap.size+1,3,none⟩=some (.slice a4 n4 c4))
  (first
   | with_reducible exact(jy J.o L.o G.o (ψ i.o) (ψ i.o) I I _ _ _ _)
   | with_reducible exact(iq J.o L.o (Hid.o (by assumption)) (ψ i.o) (ψ i.o))
   | with_reducible exact(iq J.o L.o Q.o.drew (ψ i.o) (ψ i.o)))
  (first
   | (have _g:=R.o;clear _g;go_at_call 25;refine(gM _ _ x (-y) k l _ (R1.o.below (ae j.o R.o (ψ i.o))) V1.o BX.o BN.o HK.o).mono ?_;rintro e w2 ⟨⟨v2,rfl,F⟩,A⟩
      have V2:=O F;have G:Hid (Bl W w2):=ae R.o A ρ;obtain⟨s5,a5,n5,c5,s6,a6,n6,c6,d5,rfl,-⟩:=F;obtain⟨z0,z1,z2,z3,z4⟩:=(B3.o.below G.o (ψ i.o)).four;clear A)
   | (go_at_call 195;refine(RNeg_any _ y l _ (R2.o.below (ae j.o Q.o.drew (ψ i.o))) BY.o U).mono ?_;rintro e w1 ⟨⟨v1,rfl,E⟩,u⟩
      have V1:=O E;have R:Hid (Bl W w1):=ae Q.o.drew u ρ;clear u E))
 go_wp2;have b4:=B3.o.below G.o (ψ i.o)
 exact aK results154 (w.heap.size+2) (b4.set4 (.bool s5) (.slice a5 n5 c5) (.bool s6) (.slice a6 n6 c6)) _ rfl underlying55 rfl bD rfl
  ⟨⟨_,rfl,by rw[Rat.sub_eq_add_neg];exact V2.o.store4 b4 _ _ _ _⟩,aW (ae j.o G.o (ψ i.o)) I _ _ _ _⟩
def ko(w:World)(e:Ending)(q:Rat):Prop:=∃v,e=.returned (.tuple #[v,.int .i64 0])/\ak w v q
theorem qF{x y:Rat}:Rat.divInt (x.num*y.den) ((x.den:Int)*y.num)=x / y:=by
 rw[Rat.div_def,Rat.inv_def]
 conv=>rhs;rw[<-Rat.num_divInt_den x]
 rw[Rat.divInt_mul_divInt]
theorem Bd.div{k l:Nat}{x y:Rat}(e:Bd k x)(i:Bd l y)(h0:y≠0):Bd (k+l) (x / y):=by
 rw[<-qF];have j:y.num≠0:=fun h=>h0 (Rat.num_eq_zero.1 h)
 refine eX ?_ ?_ (Int.mul_ne_zero (ψ x.den_pos) j)
 ·rw[Int.natAbs_mul];exact Bd.pow_mul e.1 i.2
 ·rw[Int.natAbs_mul];exact Bd.pow_mul e.2 i.1
theorem kr(va vb:Value)(x y:Rat)(k l:Nat)(w:World)(ha:ak w va x)(hb:ak w vb y)(E:Bd k x)(F:Bd l y)(h1:k+l<1000000)(h0:y≠0):
 Calls prog 54 #[va,vb] w fun e w'=>ko w' e (x / y)/\Bl w w':=by
 obtain⟨s1,a1,n1,c1,s2,a2,n2,c2,s3,a3,n3,c3,s4,a4,n4,c4,rfl,rfl,i1,i3,ra,rb,W,hW,b1,b2,b3,hB,hS⟩:=tj w va vb x y ha hb 55 55 55;obtain⟨I1,I2,R1,R2,BX,BY,B1,B2,B3⟩:=η9 i1 i3 ra rb E F b1 b2 b3;obtain⟨j,i,HW,sx,sy,af,ag⟩:=η7 hB hS hW (E.num I) (F.num I) (E.den I) (F.den I);have ad:k<=1000000:=I;have R:l<=1000000:=I;have hn:y.num≠0:=fun h=>h0 (Rat.num_eq_zero.1 h)
 have hq:(x.den:Int)*y.num≠0:=Int.mul_ne_zero (ψ x.den_pos) hn;have sp:Hid (Small (x.num*y.den)):=⟨k+l,by omega,by rw[Int.natAbs_mul];exact Bd.pow_mul E.1 F.2⟩;have sq:Hid (Small ((x.den:Int)*y.num)):=⟨k+l,by omega,by rw[Int.natAbs_mul];exact Bd.pow_mul E.2 F.1⟩;have HC:Hid (Rat.divInt (x.num*y.den) ((x.den:Int)*y.num)=x / y):=qF;obtain⟨c,hc⟩:=χ (dp y.num 0);have an:(c == 0)=false:=by rw[beq_eq_false_iff_ne,<-hc];intro h;exact hn (tO.1 h)
 obtain⟨ac,HQ⟩:=η2 hc hq;clear ha hb i1 i3 ra rb E F b1 b2 b3 hB hS hW h1 h0 hn hq hc;obtain⟨y0,y1,y2,y3,y4⟩:=B2.o.four
 go_enter func54,ntmps54
 go_wp2_with fail
 rw[HW.o]
 go_wp2_with fail
 refine(RSign_any _ y l _ (R2.o.below j.o) BY.o R).mono ?_;rw[ac.o];rintro e w0 ⟨rfl,H⟩;have L0:=O H;clear H
 go_wp2_with fail
 go_region_held3 (fun w'=>w'.cell? ⟨w.heap.size,0,none⟩=some (.bool s1)/\w'.cell? ⟨w.heap.size,1,none⟩=some (.slice a1 n1 c1)/\w'.cell? ⟨w.heap.size,2,none⟩=some (.bool s2)/\w'.cell? ⟨w.heap.size,3,none⟩=some (.slice a2 n2 c2)/\w'.cell? ⟨w.heap.size+1,0,none⟩=some (.bool s3)/\w'.cell? ⟨w.heap.size+1,1,none⟩=some (.slice a3 n3 c3)/\w'.cell? ⟨w.heap.size+1,2,none⟩=some (.bool s4)/\w'.cell? ⟨w.heap.size+1,3,none⟩=some (.slice a4 n4 c4))
  (first
   | with_reducible exact(jy B1.o B2.o L5.o (ψ i.o) (ψ i.o) I I _ _ _ _)
   | with_reducible exact(iq B1.o B2.o (Hid.o (by assumption)) (ψ i.o) (ψ i.o))
   | with_reducible exact(iq B1.o B2.o L0.o.drew (ψ i.o) (ψ i.o)))
  (first
   | (have u:=L4.o;clear u;go_at_call 73;refine(iE _ _ (x.num*y.den) ((x.den:Int)*y.num) _ G.o V4.o sp.o sq.o HQ.o).mono ?_;rintro e w5 ⟨⟨v5,rfl,ab⟩,Q⟩
      have V5:=O ab;have L5:Hid (Bl W w5):=ae L4.o Q ρ;obtain⟨s5,a5,n5,c5,s6,a6,n6,c6,d5,rfl,-⟩:=ab;obtain⟨z0,z1,z2,z3,z4⟩:=(B3.o.below L5.o (ψ i.o)).four;clear Q)
   | (have u:=L3.o;clear u;go_at_call 68;refine(fG _ _ (x.den:Int) y.num _ V3.o (I2.o.below (ae j.o L3.o (ψ i.o))) af.o sy.o).mono ?_;rintro e w4 ⟨⟨v4,rfl,aa⟩,C⟩
      have V4:=O aa;replace G:=O (G.o.below C);have L4:Hid (Bl W w4):=ae L3.o C ρ;clear C aa)
   | (have u:=L2.o;clear u;go_at_call 69;refine(eV _ x k _ (R1.o.below (ae j.o L2.o (ψ i.o))) BX.o ad).mono ?_;rintro e w3 ⟨⟨v3,rfl,Y⟩,A⟩
      have V3:=O Y;replace G:=O (G.o.below A);have L3:Hid (Bl W w3):=ae L2.o A ρ;clear A Y)
   | (have u:=L1.o;clear u;go_at_call 68;refine(fG _ _ x.num y.den _ (I1.o.below (ae j.o L1.o (ψ i.o))) V1.o sx.o ag.o).mono ?_;rintro e w2 ⟨⟨v2,rfl,X⟩,L⟩
      have G:=O X;have L2:Hid (Bl W w2):=ae L1.o L ρ;clear L X)
   | (go_at_call 69;refine(eV _ y l _ (R2.o.below (ae j.o L0.o.drew (ψ i.o))) BY.o R).mono ?_;rintro e w1 ⟨⟨v1,rfl,U⟩,J⟩
      have V1:=O U;have L1:Hid (Bl W w1):=ae L0.o.drew J ρ;clear J U))
 go_wp2;have b4:=B3.o.below L5.o (ψ i.o)
 exact bS results54 (w.heap.size+2) (b4.set4 (.bool s5) (.slice a5 n5 c5) (.bool s6) (.slice a6 n6 c6)) _ rfl underlying55 rfl bD rfl
  ⟨⟨_,rfl,by have:=V5.o;rw[HC.o]at this;exact this.store4 b4 _ _ _ _⟩,aW (ae j.o L5.o (ψ i.o)) I _ _ _ _⟩
end Go.Proofs.Υ
