/- Lemmas. -/
import Derived.Test.YtodehkjinmgflaaGreatDoorV10
import Derived.Test.YtodehkjinmgflaaGreatDoorV3
set_option linter.all false
set_option maxHeartbeats 0
set_option maxRecDepth 99999
namespace Go.Proofs.Υ
open Go Go.RowKit Tryz
structure RC where
 s:Bool
 a:Option Addr
 n:Nat
 c:Nat
 t:Bool
 b:Option Addr
 m:Nat
 d:Nat
abbrev Λ(w:World)(b o:Nat)(r0 r1 r2:RC):Prop:=w.cell? ⟨b,o,none⟩=some (.bool r0.s)/\w.cell? ⟨b,o+1,none⟩=some (.slice r0.a r0.n r0.c)/\w.cell? ⟨b,o+2,none⟩=some (.bool r0.t)/\w.cell? ⟨b,o+3,none⟩=some (.slice r0.b r0.m r0.d)/\w.cell? ⟨b,o+4,none⟩=some (.bool r1.s)/\w.cell? ⟨b,o+5,none⟩=some (.slice r1.a r1.n r1.c)/\w.cell? ⟨b,o+6,none⟩=some (.bool r1.t)/\w.cell? ⟨b,o+7,none⟩=some (.slice r1.b r1.m r1.d)/\w.cell? ⟨b,o+8,none⟩=some (.bool r2.s)/\w.cell? ⟨b,o+9,none⟩=some (.slice r2.a r2.n r2.c)/\w.cell? ⟨b,o+10,none⟩=some (.bool r2.t)/\w.cell? ⟨b,o+11,none⟩=some (.slice r2.b r2.m r2.d)
def RC.agg(r:RC):Value:=.agg #[.bool r.s,.slice r.a r.n r.c,.bool r.t,.slice r.b r.m r.d]
def RC.zero:RC:=⟨false,none,0,0,false,none,0,0⟩
theorem ak.rc{w:World}{v:Value}{q:Rat}(h:ak w v q):∃r:RC,v=r.agg/\ak w r.agg q:=by
 obtain⟨s1,e,j,c1,s2,i,u,c2,d,rfl,h⟩:=h;exact⟨⟨s1,e,j,c1,s2,i,u,c2⟩,rfl,s1,e,j,c1,s2,i,u,c2,d,rfl,h⟩
theorem ak.rcv{w:World}{v:Value}{q:Rat}(h:ak w v q):∃r:RC,v=.agg #[.bool r.s,.slice r.a r.n r.c,.bool r.t,.slice r.b r.m r.d]/\ak w r.agg q:=h.rc
theorem ak.zero(w:World):ak w RC.zero.agg 0:=kG (jz w)
def RCat(w:World)(b off:Nat)(r:RC):Prop:=
 w.cell? ⟨b,off,.none⟩=.some (.bool r.s)/\w.cell? ⟨b,off+1,.none⟩=.some (.slice r.a r.n r.c)/\w.cell? ⟨b,off+2,.none⟩=.some (.bool r.t)/\w.cell? ⟨b,off+3,.none⟩=.some (.slice r.b r.m r.d)
theorem RCat.below{w w':World}{n b off:Nat}{r:RC}(h:RCat w b off r)(hb:Below n w w')(e:b<n):RCat w' b off r:=
 ⟨keepC h.1 hb e,keepC h.2.1 hb e,keepC h.2.2.1 hb e,keepC h.2.2.2 hb e⟩
structure Rats (w:World) (a:Option Addr) (n cap:Nat) (q:Nat→Rat):Prop where
 le:n<=cap
 nil:a=none→cap=0
 at_:∀ x,a=some x→x.spot=none/\x.block<w.heap.size/\∀ i,i<n→∃ r,RCat w x.block (x.off+i*4) r/\ak w r.agg (q i)
theorem Rats.cells{w:World}{n e:Nat}{a:Option Addr}{q:Nat->Rat}(h:Rats w a n e q)(C:0<n):
 ∃b off,a=some ⟨b,off,.none⟩/\b<w.heap.size/\n<=e/\∀i,i<n->∃r,RCat w b (off+i*4) r/\ak w r.agg (q i):=by
 cases a with
 | none=>have:=h.nil rfl;have:=h.le;omega
 | some x =>
  obtain⟨j,u,A⟩:=h.at_ x rfl;obtain⟨b,off,s⟩:=x;simp only at j;subst j;exact⟨b,off,rfl,u,h.le,A⟩
def psum(q:Nat->Rat):Nat->Rat
 | 0=>0
 | n+1=>psum q n+q n
theorem Bd.psum{q:Nat->Rat}{k n:Nat}(h:∀i,i<n->Bd k (q i)):Bd (n*(k+1)+1) (psum q n):=by
 induction n with
 | zero=>rw[Nat.zero_mul];exact Bd.zero
 | succ n ih =>
  have:=(ih (fun i hi=>h i I)).add (h n I);rw[show(n+1)*(k+1)+1=n*(k+1)+1+k+1 by rw[Nat.add_mul];omega];exact this
theorem Sum_any(a:Option Addr)(n R:Nat)(q:Nat->Rat)(k:Nat)(w:World)(hQ:Rats w a n R q)(hk:∀i,i<n->Bd k (q i))(hn:n*(k+1)+1+k<1000000):
 Calls prog 76 #[.slice a n R] w fun e w'=>eh w' e (psum q n)/\Bl w w':=by
 obtain⟨HQ,HK,HN⟩:=η3 hQ hk hn;obtain⟨W,hW,b1,b2,hB,hS⟩:=bU w #[.bool false,.slice none 0 0,.bool false,.slice none 0 0] #[.bool false,.slice none 0 0,.bool false,.slice none 0 0] 55 55;obtain⟨B1,B2,au,ay⟩:=η4 b1 b2 hB hS;have a2:n<=1000000:=by have:=Nat.le_mul_of_pos_right n (show 0<k+1 by omega);omega
 clear hQ hk b1 b2 hB hS hn
 go_enter func76,ntmps76
 go_wp2_with fail
 go_loopw [8] (fun iv wr=>∃j r,j<=n/\iv=.int .i64 (j:Nat)/\Hid (Box wr (w.heap.size+1) #[.bool r.s,.slice r.a r.n r.c,.bool r.t,.slice r.b r.m r.d] 55)/\Hid (ak wr (RC.agg r) (psum q j))/\Hid (Box wr w.heap.size #[.bool false,.slice none 0 0,.bool false,.slice none 0 0] 55)/\Hid (Bl w wr)) (fun iv _=>n-(intOf iv).toNat)
 case atStart=>exact⟨0,RC.zero,Nat.zero_le _,rfl,B2.o,ak.zero _,B1.o,au.o⟩
 case round =>
  obtain⟨j,r,hj,rfl,F,Q,A,J⟩:=hrel;by_cases h0:j=n
  ·subst h0
   have hn:¬ (j:Int)<(j:Int):=I;obtain⟨x0,x1,x2,x3,x4⟩:=F.o.four;obtain⟨y0,y1,y2,y3,y4⟩:=A.o.four;go_wp2;exact aK results76 w.heap.size (A.o.set4 (.bool r.s) (.slice r.a r.n r.c) (.bool r.t) (.slice r.b r.m r.d)) _ rfl underlying55 rfl bD rfl
    ⟨⟨_,rfl,Q.o.store4 A.o _ _ _ _⟩,aW J.o ρ _ _ _ _⟩
  ·have ac:j<n:=I
   obtain⟨b,off,rfl,hb,hc,aa⟩:=HQ.o.cells I;obtain⟨u,ag,ad⟩:=aa j ac;have an:=ag.below J.o hb;have H0:=O (ad.below J.o);obtain⟨c0,c1,c2,c3⟩:=an;have a1:(j:Int)<(n:Int):=I;have a0:b≠w.heap.size+1:=I;have az:w.heap.size+1<wr.heap.size:=F.o.lt;have HJ:=O ac;have Y:Bd (j*(k+1)+1) (psum q j):=Bd.psum (fun i hi=>HK.o i I);have ar:=O Y;have G:=F.o.old (.cells #[.bool u.s,.slice u.a u.n u.c,.bool u.t,.slice u.b u.m u.d] 55);have E:=O G;obtain⟨y0,y1,y2,y3,y4⟩:=G.four;have ab:j*(k+1)+1+k<1000000:=by
    have h1:=HN.o;have h2:=Nat.mul_le_mul_right (k+1) hj;omega
   have av:=O ab;clear aa ag ad Y G ab h0
   go_wp2_with fail
   refine(gM r.agg u.agg (psum q j) (q j) (j*(k+1)+1) k _ (Q.o.below (β.alloc ρ _)) (H0.o.below (β.alloc ρ _)) ar.o (HK.o j HJ.o) av.o).mono ?_;rintro e w1 ⟨⟨v1,rfl,ao⟩,C⟩;obtain⟨r1,rfl,af⟩:=ao.rcv;have H:=E.o.to C;obtain⟨z0,z1,z2,z3,z4⟩:=H.four;obtain⟨H1,L⟩:=η2 af H;have X:=(A.o.old (.cells #[.bool u.s,.slice u.a u.n u.c,.bool u.t,.slice u.b u.m u.d] 55)).below C (A.o.old _).lt;have ap:=O X;have U:Bl w w1:=ae (J.o.alloc (by have:=J.o.size;exact this) _) C (by have:=J.o.size;have:=E.o.lt;omega);have aw:=O U;clear ao af C H X U y0 y1 y2 y3 y4;go_wp2;go_round
   case rel=>exact⟨j+1,r1,by have:=HJ.o;omega,rfl,L.o.set4 _ _ _ _,H1.o.store4 L.o _ _ _ _,ap.o.other4 I _ _ _ _,aW aw.o I _ _ _ _⟩
   case measure=>show n-((j:Int)+1).toNat<n-((j:Int)).toNat;have:=HJ.o;omega
theorem Make_any(va vb:Value)(x y:Int)(w:World)(ha:aO w va x)(hb:aO w vb y)(Y:Small x)(sy:Small y)(H:y≠0):
 Calls prog 119 #[va,vb] w fun e w'=>ko w' e (Rat.divInt x y)/\Bl w w':=by
 obtain⟨I1,L,SX,R,HY⟩:=η5 ha hb Y sy H;obtain⟨s1,a1,n1,c1,d1,rfl,-⟩:=ha;obtain⟨s2,a2,n2,c2,d2,rfl,-⟩:=hb;obtain⟨c,hc⟩:=χ (dp y 0);have aa:(c == 0)=false:=by rw[beq_eq_false_iff_ne,<-hc];intro h;exact H (tO.1 h)
 have E:=O hc;obtain⟨W,hW,b1,b2,U,X,hS⟩:=cC w #[.bool s1,.slice a1 n1 c1] #[.bool s2,.slice a2 n2 c2] #[.bool false,.slice none 0 0,.bool false,.slice none 0 0] 53 53 55;obtain⟨B1,B2,B3,j,i⟩:=η5 b1 b2 U X hS;obtain⟨y0,y1,y2,y3⟩:=b2.two;clear Y sy H hc b1 b2 U X hS
 go_enter func119,ntmps119
 go_wp2_with fail
 refine(fE _ y _ (L.o.below j.o) R.o).mono ?_;rw[E.o];rintro e w0 ⟨rfl,u⟩;have F:=O u;obtain⟨z0,z1,z2,z3⟩:=(B1.o.below u (ψ i.o)).two;obtain⟨u0,u1,u2,u3⟩:=(B2.o.below u (ψ i.o)).two;clear u y0 y1 y2 y3
 go_wp2_with fail
 refine(iE _ _ x y _ (I1.o.below (ae j.o F.o (ψ i.o))) (L.o.below (ae j.o F.o (ψ i.o))) SX.o R.o HY.o).mono ?_;rintro e w1 ⟨⟨v1,rfl,C⟩,A⟩;have V1:=O C;have Q:Hid (Bl W w1):=ae F.o A ρ;obtain⟨s5,a5,n5,c5,s6,a6,n6,c6,d5,rfl,-⟩:=C;have G:=B3.o.below Q.o (ψ i.o);have J:=O G;obtain⟨t0,t1,t2,t3,t4⟩:=G.four;clear A G z0 z1 z2 z3 u0 u1 u2 u3;go_wp2;exact bS results119 (w.heap.size+2) (J.o.set4 (.bool s5) (.slice a5 n5 c5) (.bool s6) (.slice a6 n6 c6)) _ rfl underlying55 rfl bD rfl
  ⟨⟨_,rfl,V1.o.store4 J.o _ _ _ _⟩,aW (ae j.o Q.o (ψ i.o)) I _ _ _ _⟩
structure Q3 where
 x:Rat
 y:Rat
 z:Rat
def ah(r0 r1 r2:RC):Array Value:=
 #[.bool r0.s,.slice r0.a r0.n r0.c,.bool r0.t,.slice r0.b r0.m r0.d,.bool r1.s,.slice r1.a r1.n r1.c,.bool r1.t,.slice r1.b r1.m r1.d,.bool r2.s,.slice r2.a r2.n r2.c,.bool r2.t,.slice r2.b r2.m r2.d]
theorem lS:ah RC.zero RC.zero RC.zero=#[.bool false,.slice none 0 0,.bool false,.slice none 0 0,.bool false,.slice none 0 0,.bool false,.slice none 0 0,.bool false,.slice none 0 0,.bool false,.slice none 0 0]:=rfl
def am(w:World)(v:Value)(q:Q3):Prop:=∃r0 r1 r2:RC,v=.agg (ah r0 r1 r2)/\ak w r0.agg q.x/\ak w r1.agg q.y/\ak w r2.agg q.z
theorem am.below{w w':World}{v:Value}{q:Q3}(h:am w v q)(hb:Bl w w'):am w' v q:=by
 obtain⟨A,C,E,e,i,j,u⟩:=h;exact⟨A,C,E,e,i.below hb,j.below hb,u.below hb⟩
def gU(w:World)(e:Ending)(q:Q3):Prop:=∃v,e=.returned v/\am w v q
def At4(w:World)(g o:Nat)(r:RC):Prop:=
 (w.cell? ⟨g,o,.none⟩=.some (.bool r.s)/\w.cell? ⟨g,o+1,.none⟩=.some (.slice r.a r.n r.c)/\w.cell? ⟨g,o+2,.none⟩=.some (.bool r.t)/\w.cell? ⟨g,o+3,.none⟩=.some (.slice r.b r.m r.d)) /\
 w.frozen? ⟨g,o,.none⟩=false/\w.frozen? ⟨g,o+1,.none⟩=false/\w.frozen? ⟨g,o+2,.none⟩=false/\w.frozen? ⟨g,o+3,.none⟩=false
theorem Box.p0{w:World}{g:Nat}{e i j:RC}{t:TypeId}(h:Box w g (ah e i j) t):At4 w g 0 e:=
 ⟨⟨(h.cell 0).trans rfl,(h.cell 1).trans rfl,(h.cell 2).trans rfl,(h.cell 3).trans rfl⟩,h.free 0,h.free 1,h.free 2,h.free 3⟩
theorem Box.p1{w:World}{g:Nat}{i e j:RC}{t:TypeId}(h:Box w g (ah i e j) t):At4 w g 4 e:=
 ⟨⟨(h.cell 4).trans rfl,(h.cell 5).trans rfl,(h.cell 6).trans rfl,(h.cell 7).trans rfl⟩,h.free 4,h.free 5,h.free 6,h.free 7⟩
theorem Box.p2{w:World}{g:Nat}{i j e:RC}{t:TypeId}(h:Box w g (ah i j e) t):At4 w g 8 e:=
 ⟨⟨(h.cell 8).trans rfl,(h.cell 9).trans rfl,(h.cell 10).trans rfl,(h.cell 11).trans rfl⟩,h.free 8,h.free 9,h.free 10,h.free 11⟩
def put4(w:World)(g o:Nat)(r:RC):World:=
 (((w.setCell ⟨g,o,.none⟩ (.bool r.s)).setCell ⟨g,o+1,.none⟩ (.slice r.a r.n r.c)).setCell ⟨g,o+2,.none⟩ (.bool r.t)).setCell ⟨g,o+3,.none⟩ (.slice r.b r.m r.d)
theorem Box.s0{w:World}{g:Nat}{j e i:RC}{t:TypeId}(h:Box w g (ah j e i) t)(r:RC):Box (put4 w g 0 r) g (ah r e i) t:=
 (((h.set 0 (.bool r.s)).set 1 (.slice r.a r.n r.c)).set 2 (.bool r.t)).set 3 (.slice r.b r.m r.d)
theorem Box.s1{w:World}{g:Nat}{e j i:RC}{t:TypeId}(h:Box w g (ah e j i) t)(r:RC):Box (put4 w g 4 r) g (ah e r i) t:=
 (((h.set 4 (.bool r.s)).set 5 (.slice r.a r.n r.c)).set 6 (.bool r.t)).set 7 (.slice r.b r.m r.d)
theorem Box.s2{w:World}{g:Nat}{e i j:RC}{t:TypeId}(h:Box w g (ah e i j) t)(r:RC):Box (put4 w g 8 r) g (ah e i r) t:=
 (((h.set 8 (.bool r.s)).set 9 (.slice r.a r.n r.c)).set 10 (.bool r.t)).set 11 (.slice r.b r.m r.d)
theorem bj{w w':World}{n g:Nat}(h:Below n w w')(e:n<=g)(o:Nat)(r:RC):Below n w (put4 w' g o r):=
 (((h.setCell e _).setCell e _).setCell e _).setCell e _
theorem cf{w w':World}{n g:Nat}(h:Below n w w')(e:n<=g)(i j k l:Nat)(x y z u:Value):
 Below n w ((((w'.setCell ⟨g,i,.none⟩ x).setCell ⟨g,j,.none⟩ y).setCell ⟨g,k,.none⟩ z).setCell ⟨g,l,.none⟩ u):=
 (((h.setCell e _).setCell e _).setCell e _).setCell e _
theorem Box.oput4{w:World}{g:Nat}{cs:Array Value}{t:TypeId}(h:Box w g cs t){g':Nat}(e:g≠g')(o:Nat)(r:RC):Box (put4 w g' o r) g cs t:=
 (h.other2 e _ _).other2 e _ _
theorem aO.put4{w:World}{v:Value}{z:Int}(h:aO w v z){g o:Nat}{r:RC}(ha:At4 w g o r)(A:RC):aO (put4 w g o A) v z:=by
 obtain⟨⟨h0,i,j,u⟩,-⟩:=ha;refine(((h.setCell h0 (gZ.bool _) _).setCell ?_ (gZ.slice r.a r.n r.c) _).setCell ?_ (gZ.bool r.t) _).setCell ?_ (gZ.slice r.b r.m r.d) _
 ·rw[World.cell?_setCell_other _ _ _ _ (by intro e;injection e;omega)];exact i
 ·rw[World.cell?_setCell_other _ _ _ _ (by intro e;injection e;omega),World.cell?_setCell_other _ _ _ _ (by intro e;injection e;omega)];exact j
 ·rw[World.cell?_setCell_other _ _ _ _ (by intro e;injection e;omega),World.cell?_setCell_other _ _ _ _ (by intro e;injection e;omega),World.cell?_setCell_other _ _ _ _ (by intro e;injection e;omega)];exact u
theorem ak.put4{w:World}{v:Value}{q:Rat}(h:ak w v q){g o:Nat}{r:RC}(ha:At4 w g o r)(G:RC):ak (put4 w g o G) v q:=by
 obtain⟨s1,e,E,c1,s2,i,F,c2,d,j,u,A,C⟩:=h;exact⟨s1,e,E,c1,s2,i,F,c2,d,j,u.put4 ha _,A.put4 ha _,C⟩
theorem am.put4{w:World}{v:Value}{q:Q3}(h:am w v q){g o:Nat}{r:RC}(ha:At4 w g o r)(A:RC):am (Υ.put4 w g o A) v q:=by
 obtain⟨C,E,F,e,i,j,u⟩:=h;exact⟨C,E,F,e,i.put4 ha _,j.put4 ha _,u.put4 ha _⟩
def put12(w:World)(g:Nat)(r0 r1 r2:RC):World:=put4 (put4 (put4 w g 0 r0) g 4 r1) g 8 r2
theorem Box.s12{w:World}{g:Nat}{e i j:RC}{t:TypeId}(h:Box w g (ah e i j) t)(a b c:RC):Box (put12 w g a b c) g (ah a b c) t:=((h.s0 a).s1 b).s2 c
theorem aX{w w':World}{n g:Nat}(h:Below n w w')(e:n<=g)(a b c:RC):Below n w (put12 w' g a b c):=bj (bj (bj h e _ _) e _ _) e _ _
theorem ak.put12{w:World}{v:Value}{q:Rat}(h:ak w v q){g:Nat}{e i j:RC}{t:TypeId}(hb:Box w g (ah e i j) t)(a b c:RC):ak (put12 w g a b c) v q:=
 ((h.put4 hb.p0 a).put4 (hb.s0 a).p1 b).put4 ((hb.s0 a).s1 b).p2 c
theorem am.put12{w:World}{v:Value}{q:Q3}(h:am w v q){g:Nat}{e i j:RC}{t:TypeId}(hb:Box w g (ah e i j) t)(a b c:RC):am (Υ.put12 w g a b c) v q:=
 ((h.put4 hb.p0 a).put4 (hb.s0 a).p1 b).put4 ((hb.s0 a).s1 b).p2 c
theorem aZ:(prog.info? 57).map (·.size)=some 12:=by kernel_rfl
theorem oY(p:V)(w:World)(h:LeV 9007199254740992 p):
 Calls prog 22 #[dP p] w fun e w'=>gU w' e ⟨(p.x:Rat),(p.y:Rat),(p.z:Rat)⟩/\Bl w w':=by
 unfold dP;have hf:=dc;have HX:=O (fun w=>hf p.x w (by have:=h.1;unfold Le at this;omega) (by have:=h.1;unfold Le at this;omega));have HY:=O (fun w=>hf p.y w (by have:=h.2.1;unfold Le at this;omega) (by have:=h.2.1;unfold Le at this;omega));have HZ:=O (fun w=>hf p.z w (by have:=h.2.2;unfold Le at this;omega) (by have:=h.2.2;unfold Le at this;omega));clear h hf;obtain⟨W,hW,b1,b2,b3,hB,hS⟩:=cC w #[.int .i64 p.x,.int .i64 p.y,.int .i64 p.z] (ah RC.zero RC.zero RC.zero) (ah RC.zero RC.zero RC.zero) 77 57 57;obtain⟨B2,B3,ay,az⟩:=η4 b2 b3 hB hS;rw[lS]at hW;obtain⟨q0,q1,q2,-⟩:=b1.three;clear b2 b3 b1 hB hS;have i0:∀w,(Instr.index 77 (.agg #[.int .i64 p.x,.int .i64 p.y,.int .i64 p.z]) (.int .i64 0)).run prog w=.ok (.int .i64 p.x) w:=fun _=>by kernel_rfl
 have i1:∀w,(Instr.index 77 (.agg #[.int .i64 p.x,.int .i64 p.y,.int .i64 p.z]) (.int .i64 1)).run prog w=.ok (.int .i64 p.y) w:=fun _=>by kernel_rfl
 have i2:∀w,(Instr.index 77 (.agg #[.int .i64 p.x,.int .i64 p.y,.int .i64 p.z]) (.int .i64 2)).run prog w=.ok (.int .i64 p.z) w:=fun _=>by kernel_rfl
 go_enter func22,ntmps22
 go_wp2_with fail
 refine aN.loop 4 ?_;refine aN.next (fun K hK=>?_)
 go_wp2_with fail
 refine(HX.o _).mono ?_;rintro e w1 ⟨⟨v1,rfl,ao⟩,u⟩;obtain⟨H,rfl,af⟩:=ao.rcv;obtain⟨L1,au,J⟩:=η3 (ae ay.o u (ψ az.o)) (B2.o.to u) (B3.o.to u);obtain⟨⟨Q,R,U,X⟩,Y,x5,x6,x7⟩:=J.o.p0;obtain⟨S0,M1⟩:=η2 af u;clear ao af u
 go_wp2_with fail
 clear Q R U X Y x5 x6 x7;change aN _ _ _ _ _ (put4 w1 (w.heap.size+2) 0 H);obtain⟨aa,ac,a0,K1⟩:=η4 (au.o.oput4 (g':=w.heap.size+2) I 0 H) (J.o.s0 H) (S0.o.put4 J.o.p0 H) (bj L1.o (Nat.le_add_right _ 2) 0 H);generalize put4 w1 (w.heap.size+2) 0 H=W1 at *;refine aN.next (fun K hK=>?_)
 go_wp2_with fail
 refine(HY.o _).mono ?_;rintro e w2 ⟨⟨v2,rfl,ap⟩,A⟩;obtain⟨G,rfl,ag⟩:=ap.rcv;obtain⟨L2,av,F⟩:=η3 (ae K1.o A (ψ K1.o.size)) (aa.o.to A) (ac.o.to A);obtain⟨⟨Q,R,U,X⟩,Y,x5,x6,x7⟩:=F.o.p1;obtain⟨S1,M2⟩:=η2 ag A;clear ap ag A
 go_wp2_with fail
 clear Q R U X Y x5 x6 x7;change aN _ _ _ _ _ (put4 w2 (w.heap.size+2) 4 G);obtain⟨ab,ad,a3,K2,a1⟩:=η5 (av.o.oput4 (g':=w.heap.size+2) I 4 G) (F.o.s1 G) (S1.o.put4 F.o.p1 G) (bj L2.o (Nat.le_add_right _ 2) 4 G) ((a0.o.below M2.o).put4 F.o.p1 G);generalize put4 w2 (w.heap.size+2) 4 G=W2 at *;refine aN.next (fun K hK=>?_)
 go_wp2_with fail
 refine(HZ.o _).mono ?_;rintro e w3 ⟨⟨v3,rfl,ar⟩,C⟩;obtain⟨E,rfl,an⟩:=ar.rcv;obtain⟨L3,aw,j⟩:=η3 (ae K2.o C (ψ K2.o.size)) (ab.o.to C) (ad.o.to C);obtain⟨⟨Q,R,U,X⟩,Y,x5,x6,x7⟩:=j.o.p2;obtain⟨S2,M3⟩:=η2 an C;clear ar an C
 go_wp2_with fail
 clear Q R U X Y x5 x6 x7;change aN _ _ _ _ _ (put4 w3 (w.heap.size+2) 8 E);obtain⟨i,L,a5,K3,a2,a4⟩:=η6 (aw.o.oput4 (g':=w.heap.size+2) I 8 E) (j.o.s2 E) (S2.o.put4 j.o.p2 E) (bj L3.o (Nat.le_add_right _ 2) 8 E) ((a1.o.below M3.o).put4 j.o.p2 E) ((a3.o.below M3.o).put4 j.o.p2 E);generalize put4 w3 (w.heap.size+2) 8 E=W3 at *;refine aN.next (fun K hK=>?_);obtain⟨⟨Q,R,U,X⟩,-⟩:=L.o.p0;obtain⟨⟨Y,x5,x6,x7⟩,-⟩:=L.o.p1;obtain⟨⟨x8,x9,a8,a9⟩,-⟩:=L.o.p2;obtain⟨⟨y0,y1,y2,y3⟩,f0,f1,f2,f3⟩:=i.o.p0;obtain⟨⟨y4,y5,y6,y7⟩,f4,f5,f6,f7⟩:=i.o.p1;obtain⟨⟨y8,y9,ba,bc⟩,f8,f9,a6,a7⟩:=i.o.p2;go_wp2;exact aK results22 (w.heap.size+1) (i.o.s12 H G E) _ rfl underlying57 rfl aZ rfl
  ⟨⟨_,rfl,H,G,E,rfl,a2.o.put12 i.o _ _ _,a4.o.put12 i.o _ _ _,a5.o.put12 i.o _ _ _⟩,aX K3.o I _ _ _⟩
theorem mC(g:Nat)(cb:Array Value)(F:Rat->Rat->Rat)(a b:Q3)(va vb:Value)(w:World)(ha:am w va a)(hb:am w vb b)(eg:∀args w,(callFunc g args).run prog w=.ok (.enter g args) w)(hx:∀w',Bl w w'->∀ux uy,ak w' ux a.x->ak w' uy b.x->Calls prog g (#[ux,uy]++cb) w' fun e H=>eh H e (F a.x b.x)/\Bl w' H)(hy:∀w',Bl w w'->∀ux uy,ak w' ux a.y->ak w' uy b.y->Calls prog g (#[ux,uy]++cb) w' fun e H=>eh H e (F a.y b.y)/\Bl w' H)(hz:∀w',Bl w w'->∀ux uy,ak w' ux a.z->ak w' uy b.z->Calls prog g (#[ux,uy]++cb) w' fun e H=>eh H e (F a.z b.z)/\Bl w' H):
 Calls prog 74 #[va,vb,.func (.func g) #[] cb] w fun e w'=>gU w' e ⟨F a.x b.x,F a.y b.y,F a.z b.z⟩/\Bl w w':=by
 obtain⟨Hx,Hy,Hz⟩:=η3 hx hy hz;obtain⟨j,u,E,rfl,a6,a7,a8⟩:=ha;obtain⟨G,b1,b2,rfl,a9,ba,bc⟩:=hb;obtain⟨W,hW,c1,c2,c3,c4,hB,hS⟩:=nC w (ah j u E) (ah G b1 b2) #[.bool false,.slice none 0 0,.bool false,.slice none 0 0,.bool false,.slice none 0 0,.bool false,.slice none 0 0,.bool false,.slice none 0 0,.bool false,.slice none 0 0] #[.bool false,.slice none 0 0,.bool false,.slice none 0 0,.bool false,.slice none 0 0,.bool false,.slice none 0 0,.bool false,.slice none 0 0,.bool false,.slice none 0 0] 57 57 57 57;obtain⟨A,Bb⟩:=η2 c1 c2;have C:Hid (Box W (w.heap.size+2) (ah RC.zero RC.zero RC.zero) 57):=c3;have D:Hid (Box W (w.heap.size+3) (ah RC.zero RC.zero RC.zero) 57):=c4;obtain⟨bm,au,af,bp,av,ag,a5,bt⟩:=η8 (a6.below hB) (a7.below hB) (a8.below hB) (a9.below hB) (ba.below hB) (bc.below hB) hB hS;have G3:Hid (w.heap.size+2<=w.heap.size+1+1+1):=by show _<=_;omega
 clear a6 a7 a8 a9 ba bc hx hy hz c1 c2 c3 c4 hB hS;unfold ah at hW⊢
 go_enter func74,ntmps74
 go_wp2_with fail
 refine aN.loop 4 ?_;refine aN.next (fun K hK=>?_);have ab:Hid (∀w',Below (w.heap.size+2) W w'->Γ8 w' w.heap.size 0 (.bool j.s) w.heap.size 1 (.slice j.a j.n j.c) w.heap.size 2 (.bool j.t) w.heap.size 3 (.slice j.b j.m j.d) (w.heap.size+1) 0 (.bool G.s) (w.heap.size+1) 1 (.slice G.a G.n G.c) (w.heap.size+1) 2 (.bool G.t) (w.heap.size+1) 3 (.slice G.b G.m G.d)):=fun w' h=>by
  obtain⟨p0,p1,p2,p3⟩:=(A.o.below h I).p0.1;obtain⟨q0,q1,q2,q3⟩:=(Bb.o.below h I).p0.1;exact⟨p0,p1,p2,p3,q0,q1,q2,q3⟩
 have i:Hid (Bl W W.drew):=β.drew;have N0:Hid (Below (w.heap.size+2) W W.drew):=β.drew;have an:=ab.o _ β
 go_wp2_with fail
 go_region_held3 (fun w'=>w'.cell? ⟨w.heap.size,0,none⟩=some (.bool j.s)/\w'.cell? ⟨w.heap.size,1,none⟩=some (.slice j.a j.n j.c)/\w'.cell? ⟨w.heap.size,2,none⟩=some (.bool j.t)/\w'.cell? ⟨w.heap.size,3,none⟩=some (.slice j.b j.m j.d)/\w'.cell? ⟨w.heap.size+1,0,none⟩=some (.bool G.s)/\w'.cell? ⟨w.heap.size+1,1,none⟩=some (.slice G.a G.n G.c)/\w'.cell? ⟨w.heap.size+1,2,none⟩=some (.bool G.t)/\w'.cell? ⟨w.heap.size+1,3,none⟩=some (.slice G.b G.m G.d))
  (with_reducible first|exact(ab.o _ (cf N1.o G3.o _ _ _ _ _ _ _ _))|exact(ab.o _ N1.o)|exact(ab.o _ N0.o))
  (first
   | (refine(Hx.o _ (a5.o.drew) _ _ (bm.o.below i.o) (bp.o.below i.o)).mono ?_;rintro e w1 ⟨⟨v1,rfl,bi⟩,aw⟩
      obtain⟨L,rfl,be⟩:=bi.rcv;have M1:Hid (Bl W w1):=ae i.o aw ρ;have N1:Hid (Below (w.heap.size+2) W w1):=ae N0.o aw (ψ D.o.lt);have S0:=O be;obtain⟨⟨x0,x1,x2,x3⟩,x4,x5,x6,x7⟩:=(D.o.to M1.o).p0;clear bi be aw))
 clear an x0 x1 x2 x3 x4 x5 x6 x7
 go_wp2_with fail
 change aN _ _ _ _ _ (put4 w1 (w.heap.size+3) 0 L);obtain⟨E1,ao,Y,a3⟩:=η4 (D.o.to M1.o) ((A.o.to M1.o).oput4 (g':=w.heap.size+3) I 0 L) ((Bb.o.to M1.o).oput4 (g':=w.heap.size+3) I 0 L) ((C.o.to M1.o).oput4 (g':=w.heap.size+3) I 0 L);obtain⟨Q,T0⟩:=η2 (E1.o.s0 L) (S0.o.put4 E1.o.p0 L);replace au:=O ((au.o.below M1.o).put4 E1.o.p0 L);replace af:=O ((af.o.below M1.o).put4 E1.o.p0 L);replace av:=O ((av.o.below M1.o).put4 E1.o.p0 L);replace ag:=O ((ag.o.below M1.o).put4 E1.o.p0 L);have K1:=O (bj (ae a5.o M1.o (ψ D.o.lt)) (Nat.le_add_right _ 3) 0 L);clear ab i N0 N1 S0;clear M1 E1;generalize put4 w1 (w.heap.size+3) 0 L=U1 at *;refine aN.next (fun K hK=>?_);have ac:Hid (∀w',Below (w.heap.size+2) U1 w'->Γ8 w' w.heap.size 4 (.bool u.s) w.heap.size 5 (.slice u.a u.n u.c) w.heap.size 6 (.bool u.t) w.heap.size 7 (.slice u.b u.m u.d) (w.heap.size+1) 4 (.bool b1.s) (w.heap.size+1) 5 (.slice b1.a b1.n b1.c) (w.heap.size+1) 6 (.bool b1.t) (w.heap.size+1) 7 (.slice b1.b b1.m b1.d)):=fun w' h=>by
  obtain⟨p0,p1,p2,p3⟩:=(ao.o.below h I).p1.1;obtain⟨q0,q1,q2,q3⟩:=(Y.o.below h I).p1.1;exact⟨p0,p1,p2,p3,q0,q1,q2,q3⟩
 have i:Hid (Bl U1 U1.drew):=β.drew;have N0:Hid (Below (w.heap.size+2) U1 U1.drew):=β.drew;have an:=ac.o _ β
 go_wp2_with fail
 go_region_held3 (fun w'=>w'.cell? ⟨w.heap.size,4,none⟩=some (.bool u.s)/\w'.cell? ⟨w.heap.size,5,none⟩=some (.slice u.a u.n u.c)/\w'.cell? ⟨w.heap.size,6,none⟩=some (.bool u.t)/\w'.cell? ⟨w.heap.size,7,none⟩=some (.slice u.b u.m u.d)/\w'.cell? ⟨w.heap.size+1,4,none⟩=some (.bool b1.s)/\w'.cell? ⟨w.heap.size+1,5,none⟩=some (.slice b1.a b1.n b1.c)/\w'.cell? ⟨w.heap.size+1,6,none⟩=some (.bool b1.t)/\w'.cell? ⟨w.heap.size+1,7,none⟩=some (.slice b1.b b1.m b1.d))
  (with_reducible first|exact(ac.o _ (cf N2.o G3.o _ _ _ _ _ _ _ _))|exact(ac.o _ N2.o)|exact(ac.o _ N0.o))
  (first
   | (refine(Hy.o _ (K1.o.drew) _ _ (au.o.below i.o) (av.o.below i.o)).mono ?_;rintro e w2 ⟨⟨v2,rfl,bk⟩,ay⟩
      obtain⟨U,rfl,bf⟩:=bk.rcv;have M2:Hid (Bl U1 w2):=ae i.o ay ρ;have N2:Hid (Below (w.heap.size+2) U1 w2):=ae N0.o ay (ψ Q.o.lt);have S1:=O bf;obtain⟨⟨x0,x1,x2,x3⟩,x4,x5,x6,x7⟩:=(Q.o.to M2.o).p1;clear bk bf ay))
 clear an x0 x1 x2 x3 x4 x5 x6 x7
 go_wp2_with fail
 change aN _ _ _ _ _ (put4 w2 (w.heap.size+3) 4 U);obtain⟨E2,ap,aa,a4⟩:=η4 (Q.o.to M2.o) ((ao.o.to M2.o).oput4 (g':=w.heap.size+3) I 4 U) ((Y.o.to M2.o).oput4 (g':=w.heap.size+3) I 4 U) ((a3.o.to M2.o).oput4 (g':=w.heap.size+3) I 4 U);obtain⟨R,T1⟩:=η2 (E2.o.s1 U) (S1.o.put4 E2.o.p1 U);replace af:=O ((af.o.below M2.o).put4 E2.o.p1 U);replace ag:=O ((ag.o.below M2.o).put4 E2.o.p1 U);replace T0:=O ((T0.o.below M2.o).put4 E2.o.p1 U);have K2:=O (bj (ae K1.o M2.o (ψ Q.o.lt)) (Nat.le_add_right _ 3) 4 U);clear ac i N0 N2 S1;clear M2 E2;generalize put4 w2 (w.heap.size+3) 4 U=U2 at *;refine aN.next (fun K hK=>?_);have ad:Hid (∀w',Below (w.heap.size+2) U2 w'->Γ8 w' w.heap.size 8 (.bool E.s) w.heap.size 9 (.slice E.a E.n E.c) w.heap.size 10 (.bool E.t) w.heap.size 11 (.slice E.b E.m E.d) (w.heap.size+1) 8 (.bool b2.s) (w.heap.size+1) 9 (.slice b2.a b2.n b2.c) (w.heap.size+1) 10 (.bool b2.t) (w.heap.size+1) 11 (.slice b2.b b2.m b2.d)):=fun w' h=>by
  obtain⟨p0,p1,p2,p3⟩:=(ap.o.below h I).p2.1;obtain⟨q0,q1,q2,q3⟩:=(aa.o.below h I).p2.1;exact⟨p0,p1,p2,p3,q0,q1,q2,q3⟩
 have i:Hid (Bl U2 U2.drew):=β.drew;have N0:Hid (Below (w.heap.size+2) U2 U2.drew):=β.drew;have an:=ad.o _ β
 go_wp2_with fail
 go_region_held3 (fun w'=>w'.cell? ⟨w.heap.size,8,none⟩=some (.bool E.s)/\w'.cell? ⟨w.heap.size,9,none⟩=some (.slice E.a E.n E.c)/\w'.cell? ⟨w.heap.size,10,none⟩=some (.bool E.t)/\w'.cell? ⟨w.heap.size,11,none⟩=some (.slice E.b E.m E.d)/\w'.cell? ⟨w.heap.size+1,8,none⟩=some (.bool b2.s)/\w'.cell? ⟨w.heap.size+1,9,none⟩=some (.slice b2.a b2.n b2.c)/\w'.cell? ⟨w.heap.size+1,10,none⟩=some (.bool b2.t)/\w'.cell? ⟨w.heap.size+1,11,none⟩=some (.slice b2.b b2.m b2.d))
  (with_reducible first|exact(ad.o _ (cf N3.o G3.o _ _ _ _ _ _ _ _))|exact(ad.o _ N3.o)|exact(ad.o _ N0.o))
  (first
   | (refine(Hz.o _ (K2.o.drew) _ _ (af.o.below i.o) (ag.o.below i.o)).mono ?_;rintro e w3 ⟨⟨v3,rfl,bl⟩,az⟩
      obtain⟨X,rfl,bg⟩:=bl.rcv;have M3:Hid (Bl U2 w3):=ae i.o az ρ;have N3:Hid (Below (w.heap.size+2) U2 w3):=ae N0.o az (ψ R.o.lt);have S2:=O bg;obtain⟨⟨x0,x1,x2,x3⟩,x4,x5,x6,x7⟩:=(R.o.to M3.o).p2;clear bl bg az))
 clear an x0 x1 x2 x3 x4 x5 x6 x7
 go_wp2_with fail
 change aN _ _ _ _ _ (put4 w3 (w.heap.size+3) 8 X);obtain⟨E3,bs,br,J⟩:=η4 (R.o.to M3.o) ((ap.o.to M3.o).oput4 (g':=w.heap.size+3) I 8 X) ((aa.o.to M3.o).oput4 (g':=w.heap.size+3) I 8 X) ((a4.o.to M3.o).oput4 (g':=w.heap.size+3) I 8 X);obtain⟨ar,T2⟩:=η2 (E3.o.s2 X) (S2.o.put4 E3.o.p2 X);replace T0:=O ((T0.o.below M3.o).put4 E3.o.p2 X);replace T1:=O ((T1.o.below M3.o).put4 E3.o.p2 X);have K3:=O (bj (ae K2.o M3.o (ψ R.o.lt)) (Nat.le_add_right _ 3) 8 X);clear ad i N0 N3 S2;clear M3 E3;generalize put4 w3 (w.heap.size+3) 8 X=U3 at *;refine aN.next (fun K hK=>?_);obtain⟨⟨x0,x1,x2,x3⟩,-⟩:=ar.o.p0;obtain⟨⟨x4,x5,x6,x7⟩,-⟩:=ar.o.p1;obtain⟨⟨x8,x9,bz,bF⟩,-⟩:=ar.o.p2;obtain⟨⟨y0,y1,y2,y3⟩,f0,f1,f2,f3⟩:=J.o.p0;obtain⟨⟨y4,y5,y6,y7⟩,f4,f5,f6,f7⟩:=J.o.p1;obtain⟨⟨y8,y9,bI,bV⟩,f8,f9,bu,bv⟩:=J.o.p2;go_wp2;exact aK results74 (w.heap.size+2) (J.o.s12 L U X) _ rfl underlying57 rfl aZ rfl
  ⟨⟨_,rfl,L,U,X,rfl,T0.o.put12 J.o _ _ _,T1.o.put12 J.o _ _ _,T2.o.put12 J.o _ _ _⟩,aX K3.o I _ _ _⟩
def BdV(k:Nat)(q:Q3):Prop:=Bd k q.x/\Bd k q.y/\Bd k q.z
theorem am.rcv{w:World}{v:Value}{q:Q3}(h:am w v q):∃e i j:RC,v=.agg #[.bool e.s,.slice e.a e.n e.c,.bool e.t,.slice e.b e.m e.d,.bool i.s,.slice i.a i.n i.c,.bool i.t,.slice i.b i.m i.d,.bool j.s,.slice j.a j.n j.c,.bool j.t,.slice j.b j.m j.d]/\am w (.agg (ah e i j)) q:=by
 obtain⟨e,i,j,rfl,u,A,C⟩:=h;exact⟨e,i,j,rfl,e,i,j,rfl,u,A,C⟩
theorem am.zero(w:World):am w (.agg (ah RC.zero RC.zero RC.zero)) ⟨0,0,0⟩:=⟨_,_,_,rfl,ak.zero w,ak.zero w,ak.zero w⟩
theorem entersAdd:∀args w,(callFunc 25 args).run prog w=.ok (.enter 25 args) w:=
 enters_of func25 Z rfl
theorem entersSub:∀args w,(callFunc 154 args).run prog w=.ok (.enter 154 args) w:=
 enters_of func154 Z rfl
theorem entersMul:∀args w,(callFunc 31 args).run prog w=.ok (.enter 31 args) w:=
 enters_of func31 Z rfl
theorem iz(Y vb:Value)(a b:Q3)(k l:Nat)(w:World)(ha:am w Y a)(hb:am w vb b)(Q:BdV k a)(U:BdV l b)(J:k+l<1000000):
 Calls prog 26 #[Y,vb] w fun e w'=>gU w' e ⟨a.x+b.x,a.y+b.y,a.z+b.z⟩/\Bl w w':=by
 have hc:=fun w' j u=>mC 25 #[] (· + ·) a b Y vb w' j u entersAdd
  (fun w' _ G H j u=>gM G H a.x b.x k l w' j u Q.1 U.1 J)
  (fun w' _ G H j u=>gM G H a.y b.y k l w' j u Q.2.1 U.2.1 J)
  (fun w' _ G H j u=>gM G H a.z b.z k l w' j u Q.2.2 U.2.2 J)
 obtain⟨HA,HB⟩:=η2 ha hb;obtain⟨a0,a1,a2,rfl,-⟩:=ha;obtain⟨b0,b1,b2,rfl,-⟩:=hb;have HC:=O hc;obtain⟨W,hW,c1,c2,c3,E,hS⟩:=cC w (ah a0 a1 a2) (ah b0 b1 b2) #[.bool false,.slice none 0 0,.bool false,.slice none 0 0,.bool false,.slice none 0 0,.bool false,.slice none 0 0,.bool false,.slice none 0 0,.bool false,.slice none 0 0] 57 57 57;have C:Hid (Box W (w.heap.size+2) (ah RC.zero RC.zero RC.zero) 57):=c3;obtain⟨i,X⟩:=η2 E hS;obtain⟨⟨x0,x1,x2,x3⟩,-⟩:=c1.p0;obtain⟨⟨x4,x5,x6,x7⟩,-⟩:=c1.p1;obtain⟨⟨x8,x9,aa,ab⟩,-⟩:=c1.p2;obtain⟨⟨y0,y1,y2,y3⟩,-⟩:=c2.p0;obtain⟨⟨y4,y5,y6,y7⟩,-⟩:=c2.p1;obtain⟨⟨y8,y9,ac,ad⟩,-⟩:=c2.p2;clear hc Q U J c1 c2 c3 E hS;unfold ah at hW⊢
 go_enter func26,ntmps26
 go_wp2_with fail
 refine(HC.o _ (HA.o.below i.o) (HB.o.below i.o)).mono ?_;rintro e w1 ⟨⟨v1,rfl,F⟩,A⟩;obtain⟨r0,r1,r2,rfl,hr⟩:=F.rcv;obtain⟨R,D,L⟩:=η3 hr (C.o.to A) (ae i.o A (ψ X.o));obtain⟨⟨z0,z1,z2,z3⟩,f0,f1,f2,f3⟩:=D.o.p0;obtain⟨⟨z4,z5,z6,z7⟩,f4,f5,f6,f7⟩:=D.o.p1;obtain⟨⟨z8,z9,an,ao⟩,f8,f9,af,ag⟩:=D.o.p2;clear F hr A x0 x1 x2 x3 x4 x5 x6 x7 x8 x9 aa ab y0 y1 y2 y3 y4 y5 y6 y7 y8 y9 ac ad;go_wp2;exact aK results26 (w.heap.size+2) (D.o.s12 r0 r1 r2) _ rfl underlying57 rfl aZ rfl
  ⟨⟨_,rfl,R.o.put12 D.o _ _ _⟩,aX L.o I _ _ _⟩
theorem qU(Y vb:Value)(a b:Q3)(k l:Nat)(w:World)(ha:am w Y a)(hb:am w vb b)(Q:BdV k a)(U:BdV l b)(J:k+l<1000000):
 Calls prog 108 #[Y,vb] w fun e w'=>gU w' e ⟨a.x-b.x,a.y-b.y,a.z-b.z⟩/\Bl w w':=by
 have hc:=fun w' j u=>mC 154 #[] (· - ·) a b Y vb w' j u entersSub
  (fun w' _ G H j u=>jm G H a.x b.x k l w' j u Q.1 U.1 J)
  (fun w' _ G H j u=>jm G H a.y b.y k l w' j u Q.2.1 U.2.1 J)
  (fun w' _ G H j u=>jm G H a.z b.z k l w' j u Q.2.2 U.2.2 J)
 obtain⟨HA,HB⟩:=η2 ha hb;obtain⟨a0,a1,a2,rfl,-⟩:=ha;obtain⟨b0,b1,b2,rfl,-⟩:=hb;have HC:=O hc;obtain⟨W,hW,c1,c2,c3,E,hS⟩:=cC w (ah a0 a1 a2) (ah b0 b1 b2) #[.bool false,.slice none 0 0,.bool false,.slice none 0 0,.bool false,.slice none 0 0,.bool false,.slice none 0 0,.bool false,.slice none 0 0,.bool false,.slice none 0 0] 57 57 57;have C:Hid (Box W (w.heap.size+2) (ah RC.zero RC.zero RC.zero) 57):=c3;obtain⟨i,X⟩:=η2 E hS;obtain⟨⟨x0,x1,x2,x3⟩,-⟩:=c1.p0;obtain⟨⟨x4,x5,x6,x7⟩,-⟩:=c1.p1;obtain⟨⟨x8,x9,aa,ab⟩,-⟩:=c1.p2;obtain⟨⟨y0,y1,y2,y3⟩,-⟩:=c2.p0;obtain⟨⟨y4,y5,y6,y7⟩,-⟩:=c2.p1;obtain⟨⟨y8,y9,ac,ad⟩,-⟩:=c2.p2;clear hc Q U J c1 c2 c3 E hS;unfold ah at hW⊢
 go_enter func108,ntmps108
 go_wp2_with fail
 refine(HC.o _ (HA.o.below i.o) (HB.o.below i.o)).mono ?_;rintro e w1 ⟨⟨v1,rfl,F⟩,A⟩;obtain⟨r0,r1,r2,rfl,hr⟩:=F.rcv;obtain⟨R,D,L⟩:=η3 hr (C.o.to A) (ae i.o A (ψ X.o));obtain⟨⟨z0,z1,z2,z3⟩,f0,f1,f2,f3⟩:=D.o.p0;obtain⟨⟨z4,z5,z6,z7⟩,f4,f5,f6,f7⟩:=D.o.p1;obtain⟨⟨z8,z9,an,ao⟩,f8,f9,af,ag⟩:=D.o.p2;clear F hr A x0 x1 x2 x3 x4 x5 x6 x7 x8 x9 aa ab y0 y1 y2 y3 y4 y5 y6 y7 y8 y9 ac ad;go_wp2;exact aK results108 (w.heap.size+2) (D.o.s12 r0 r1 r2) _ rfl underlying57 rfl aZ rfl
  ⟨⟨_,rfl,R.o.put12 D.o _ _ _⟩,aX L.o I _ _ _⟩
theorem lQ(g:Nat)(t:TypeId)(r:RC)(U uy:Value)(x y q:Rat)(k l:Nat)(w:World)(J:Box w g #[.bool r.s,.slice r.a r.n r.c,.bool r.t,.slice r.b r.m r.d] t)(hq:ak w r.agg q)(Q:ak w U x)(hy:ak w uy y)(Y:Bd k q)(hl:Bd l x)(X:k+l<1000000):
 Calls prog 75 (#[U,uy]++#[.pointer (some ⟨g,0,none⟩)]) w fun e w'=>eh w' e (q*x)/\Bl w w':=by
 have hc:=fun w' h2 h3=>dE r.agg U q x k l w' h2 h3 Y hl X
 obtain⟨HX,HQ⟩:=η2 Q hq;obtain⟨i,rfl,-⟩:=Q.rcv;obtain⟨j,rfl,-⟩:=hy.rcv;have HC:=O hc;obtain⟨W,hW,c1,c2,c3,E,hS⟩:=cC w #[.bool i.s,.slice i.a i.n i.c,.bool i.t,.slice i.b i.m i.d] #[.bool j.s,.slice j.a j.n j.c,.bool j.t,.slice j.b j.m j.d] #[.bool false,.slice none 0 0,.bool false,.slice none 0 0] 55 55 55;obtain⟨C,A,H⟩:=η3 c3 E hS;obtain⟨x0,x1,x2,x3,-⟩:=c1.four;obtain⟨y0,y1,y2,y3,-⟩:=(J.to E).four;clear hc Q hy hq Y hl X J c1 c2 c3 E hS
 go_enter func75,ntmps75
 go_wp2_with fail
 refine(HC.o _ (HQ.o.below A.o) (HX.o.below A.o)).mono ?_;rintro e w1 ⟨⟨v1,rfl,G⟩,F⟩;obtain⟨u,rfl,hr⟩:=G.rcv;obtain⟨R,D,L⟩:=η3 hr (C.o.to F) (ae A.o F (ψ H.o));obtain⟨z0,z1,z2,z3,z4⟩:=D.o.four;clear G hr F x0 x1 x2 x3 y0 y1 y2 y3;go_wp2;exact aK results75 (w.heap.size+2) (D.o.set4 (.bool u.s) (.slice u.a u.n u.c) (.bool u.t) (.slice u.b u.m u.d)) _ rfl underlying55 rfl bD rfl
  ⟨⟨_,rfl,R.o.store4 D.o _ _ _ _⟩,aW L.o I _ _ _ _⟩
theorem tM:∀args w,(callFunc 75 args).run prog w=.ok (.enter 75 args) w:=
 enters_of func75 Z rfl
theorem dq(va vk:Value)(a:Q3)(q:Rat)(k l:Nat)(w:World)(ha:am w va a)(hq:ak w vk q)(U:Bd k q)(X:BdV l a)(Q:k+l<1000000):
 Calls prog 27 #[va,vk] w fun e w'=>gU w' e ⟨q*a.x,q*a.y,q*a.z⟩/\Bl w w':=by
 obtain⟨HA,HQ⟩:=η2 ha hq;obtain⟨a0,a1,a2,rfl,-⟩:=ha;obtain⟨r,rfl,j⟩:=hq.rcv;obtain⟨W,hW,c1,c2,c3,i,hS⟩:=cC w (ah a0 a1 a2) #[.bool r.s,.slice r.a r.n r.c,.bool r.t,.slice r.b r.m r.d] #[.bool false,.slice none 0 0,.bool false,.slice none 0 0,.bool false,.slice none 0 0,.bool false,.slice none 0 0,.bool false,.slice none 0 0,.bool false,.slice none 0 0] 57 55 57;have hc:=mC 75 #[.pointer (some ⟨w.heap.size+1,0,none⟩)] (fun x _=>q*x) a a (.agg (ah a0 a1 a2)) (.agg (ah a0 a1 a2)) W (HA.o.below i) (HA.o.below i) tM
  (fun w' u H J E F=>lQ _ 55 r H J a.x a.x q k l w' (c2.below u I) ((j.below i).below u) E F U X.1 Q)
  (fun w' u H J E F=>lQ _ 55 r H J a.y a.y q k l w' (c2.below u I) ((j.below i).below u) E F U X.2.1 Q)
  (fun w' u H J E F=>lQ _ 55 r H J a.z a.z q k l w' (c2.below u I) ((j.below i).below u) E F U X.2.2 Q)
 have HC:=O hc;have C:Hid (Box W (w.heap.size+2) (ah RC.zero RC.zero RC.zero) 57):=c3;obtain⟨Y,aa⟩:=η2 i hS;obtain⟨⟨x0,x1,x2,x3⟩,-⟩:=c1.p0;obtain⟨⟨x4,x5,x6,x7⟩,-⟩:=c1.p1;obtain⟨⟨x8,x9,ab,ac⟩,-⟩:=c1.p2;clear hc U X Q hq j c1 c2 c3 i hS;unfold ah at hW⊢
 go_enter func27,ntmps27
 go_wp2_with fail
 refine HC.o.mono ?_;rintro e w1 ⟨⟨v1,rfl,G⟩,A⟩;obtain⟨r0,r1,r2,rfl,hr⟩:=G.rcv;obtain⟨R,D,L⟩:=η3 hr (C.o.to A) (ae Y.o A (ψ aa.o));obtain⟨⟨z0,z1,z2,z3⟩,f0,f1,f2,f3⟩:=D.o.p0;obtain⟨⟨z4,z5,z6,z7⟩,f4,f5,f6,f7⟩:=D.o.p1;obtain⟨⟨z8,z9,ag,an⟩,f8,f9,ad,af⟩:=D.o.p2;clear G hr A x0 x1 x2 x3 x4 x5 x6 x7 x8 x9 ab ac;go_wp2;exact aK results27 (w.heap.size+2) (D.o.s12 r0 r1 r2) _ rfl underlying57 rfl aZ rfl
  ⟨⟨_,rfl,R.o.put12 D.o _ _ _⟩,aX L.o I _ _ _⟩
def aT(a b:Q3):Rat:=a.x*b.x+a.y*b.y+a.z*b.z
def Q3.at(a:Q3):Nat->Rat
 | 0=>a.x
 | 1=>a.y
 | _=>a.z
def qmul(a b:Q3):Q3:=⟨a.x*b.x,a.y*b.y,a.z*b.z⟩
theorem psum3(a b:Q3):psum (qmul a b).at 3=aT a b:=by
 show 0+a.x*b.x+a.y*b.y+a.z*b.z=_;rw[Rat.zero_add];rfl
theorem Bd.dot{k l:Nat}{a b:Q3}(ha:BdV k a)(hb:BdV l b):Bd (3*(k+l+1)+1) (aT a b):=by
 rw[<-psum3];refine Bd.psum fun i hi=>?_
 match i with
 | 0=>exact ha.1.mul hb.1
 | 1=>exact ha.2.1.mul hb.2.1
 | 2=>exact ha.2.2.mul hb.2.2
theorem rats3{w:World}{g:Nat}{j u A:RC}{t:TypeId}{a:Q3}(h:Box w g (ah j u A) t)(G:am w (.agg (ah j u A)) a):Rats w (.some ⟨g,0,.none⟩) 3 3 a.at:=by
 obtain⟨s0,s1,s2,C,h0,E,F⟩:=G;have e:j.agg=s0.agg/\u.agg=s1.agg/\A.agg=s2.agg:=by
  unfold ah at C;simp only[Value.agg.injEq,Array.mk.injEq,List.cons.injEq,Value.bool.injEq,Value.slice.injEq]at C;unfold RC.agg;simp only[Value.agg.injEq,Array.mk.injEq,List.cons.injEq,Value.bool.injEq,Value.slice.injEq,and_true];simp only[C,and_self]
 rw[<-e.1]at h0;rw[<-e.2.1]at E;rw[<-e.2.2]at F;refine⟨Nat.le_refl _,(fun h=>by cases h),fun x H=>?_⟩;cases H;refine⟨rfl,h.lt,fun i hi=>?_⟩
 match i with
 | 0=>exact⟨j,h.p0.1,h0⟩
 | 1=>exact⟨u,h.p1.1,E⟩
 | 2=>exact⟨A,h.p2.1,F⟩
theorem ji(va vb:Value)(a b:Q3)(k l:Nat)(w:World)(ha:am w va a)(hb:am w vb b)(J:BdV k a)(Q:BdV l b)(h1:k+l<200000):
 Calls prog 65 #[va,vb] w fun e w'=>eh w' e (aT a b)/\Bl w w':=by
 have hc:=fun w' u F=>mC 31 #[] (· * ·) a b va vb w' u F entersMul
  (fun w' _ ux uy u F=>dE ux uy a.x b.x k l w' u F J.1 Q.1 I)
  (fun w' _ ux uy u F=>dE ux uy a.y b.y k l w' u F J.2.1 Q.2.1 I)
  (fun w' _ ux uy u F=>dE ux uy a.z b.z k l w' u F J.2.2 Q.2.2 I)
 have U:=fun g w' u=>Sum_any (some ⟨g,0,none⟩) 3 3 (qmul a b).at (k+l) w' u (fun i hi=>by
  match i with
  | 0=>exact J.1.mul Q.1
  | 1=>exact J.2.1.mul Q.2.1
  | 2=>exact J.2.2.mul Q.2.2) I
 rw[psum3]at U;obtain⟨HA,HB,ac⟩:=η3 ha hb U;obtain⟨a0,a1,a2,rfl,-⟩:=ha;obtain⟨b0,b1,b2,rfl,-⟩:=hb;have HC:=O hc;obtain⟨W,hW,c1,c2,c3,X,hS⟩:=cC w (ah a0 a1 a2) (ah b0 b1 b2) #[.bool false,.slice none 0 0,.bool false,.slice none 0 0] 57 57 55;obtain⟨C,A,ad⟩:=η3 c3 X hS;obtain⟨⟨x0,x1,x2,x3⟩,-⟩:=c1.p0;obtain⟨⟨x4,x5,x6,x7⟩,-⟩:=c1.p1;obtain⟨⟨x8,x9,af,ag⟩,-⟩:=c1.p2;obtain⟨⟨y0,y1,y2,y3⟩,-⟩:=c2.p0;obtain⟨⟨y4,y5,y6,y7⟩,-⟩:=c2.p1;obtain⟨⟨y8,y9,an,ao⟩,-⟩:=c2.p2;clear hc U J Q h1 c1 c2 c3 X hS;unfold ah at hW⊢
 go_enter func65,ntmps65
 go_wp2_with fail
 refine(HC.o _ (HA.o.below A.o) (HB.o.below A.o)).mono ?_;rintro e w1 ⟨⟨v1,rfl,aa⟩,G⟩;obtain⟨r0,r1,r2,rfl,hr⟩:=aa.rcv;obtain⟨R,D,L⟩:=η3 hr (C.o.to G) (ae A.o G (ψ ad.o));have hn:=Box.new w1 (ah r0 r1 r2) 57 _ rfl;have Y:=(Below.refl w1.heap.size w1).alloc ρ (.cells (ah r0 r1 r2) 57);obtain⟨HN,j⟩:=η2 hn Y;clear aa hr G hn Y x0 x1 x2 x3 x4 x5 x6 x7 x8 x9 af ag y0 y1 y2 y3 y4 y5 y6 y7 y8 y9 an ao;unfold ah at HN j
 go_wp2_with fail
 refine(ac.o _ _ (rats3 HN.o (R.o.below j.o))).mono ?_;rintro e w2 ⟨⟨v2,rfl,ab⟩,H⟩;obtain⟨s,rfl,U⟩:=ab.rcv;have S:=O U;have hE:=(D.o.to j.o).below H (by have:=D.o.lt;have:=j.o.size;omega);have E:=O hE;have L2:=O (ae (ae L.o j.o (ψ L.o.size)) H (by have:=L.o.size;have:=j.o.size;omega));obtain⟨z0,z1,z2,z3,z4⟩:=hE.four;clear ab U H hE;go_wp2;exact aK results65 (w.heap.size+2) (E.o.set4 (.bool s.s) (.slice s.a s.n s.c) (.bool s.t) (.slice s.b s.m s.d)) _ rfl underlying55 rfl bD rfl
  ⟨⟨_,rfl,S.o.store4 E.o _ _ _ _⟩,aW L2.o I _ _ _ _⟩
end Go.Proofs.Υ
