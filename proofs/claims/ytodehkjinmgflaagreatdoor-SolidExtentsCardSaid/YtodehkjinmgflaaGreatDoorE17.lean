/- Lemmas. -/
import Derived.Test.YtodehkjinmgflaaGreatDoorE10
import Derived.Test.YtodehkjinmgflaaGreatDoorE4
set_option linter.all false
set_option maxHeartbeats 0
set_option maxRecDepth 99999
namespace Go.Proofs.Υ
open Go Go.RowKit Tryz
structure RC where
 s:Bool
 a:Option Addr
 n:Nat
 c:Nat
 t:Bool
 b:Option Addr
 m:Nat
 d:Nat
abbrev Λ(w:World)(b o:Nat)(r0 r1 r2:RC):Prop:=w.cell? ⟨b,o,none⟩=some (.bool r0.s)/\w.cell? ⟨b,o+1,none⟩=some (.slice r0.a r0.n r0.c)/\w.cell? ⟨b,o+2,none⟩=some (.bool r0.t)/\w.cell? ⟨b,o+3,none⟩=some (.slice r0.b r0.m r0.d)/\w.cell? ⟨b,o+4,none⟩=some (.bool r1.s)/\w.cell? ⟨b,o+5,none⟩=some (.slice r1.a r1.n r1.c)/\w.cell? ⟨b,o+6,none⟩=some (.bool r1.t)/\w.cell? ⟨b,o+7,none⟩=some (.slice r1.b r1.m r1.d)/\w.cell? ⟨b,o+8,none⟩=some (.bool r2.s)/\w.cell? ⟨b,o+9,none⟩=some (.slice r2.a r2.n r2.c)/\w.cell? ⟨b,o+10,none⟩=some (.bool r2.t)/\w.cell? ⟨b,o+11,none⟩=some (.slice r2.b r2.m r2.d)
def RC.agg(r:RC):Value:=.agg #[.bool r.s,.slice r.a r.n r.c,.bool r.t,.slice r.b r.m r.d]
def RC.zero:RC:=⟨false,none,0,0,false,none,0,0⟩
theorem aj.rc{w:World}{v:Value}{q:Rat}(h:aj w v q):∃r:RC,v=r.agg/\aj w r.agg q:=by
 obtain⟨s1,e,u,c1,s2,j,A,c2,d,rfl,h⟩:=h;exact⟨⟨s1,e,u,c1,s2,j,A,c2⟩,rfl,s1,e,u,c1,s2,j,A,c2,d,rfl,h⟩
theorem aj.rcv{w:World}{v:Value}{q:Rat}(h:aj w v q):∃r:RC,v=.agg #[.bool r.s,.slice r.a r.n r.c,.bool r.t,.slice r.b r.m r.d]/\aj w r.agg q:=h.rc
theorem aj.zero(w:World):aj w RC.zero.agg 0:=kW (jH w)
def RCat(w:World)(b off:Nat)(r:RC):Prop:=
 w.cell? ⟨b,off,.none⟩=.some (.bool r.s)/\w.cell? ⟨b,off+1,.none⟩=.some (.slice r.a r.n r.c)/\w.cell? ⟨b,off+2,.none⟩=.some (.bool r.t)/\w.cell? ⟨b,off+3,.none⟩=.some (.slice r.b r.m r.d)
theorem RCat.below{w w':World}{n b off:Nat}{r:RC}(h:RCat w b off r)(hb:Below n w w')(e:b<n):RCat w' b off r:=
 ⟨keepC h.1 hb e,keepC h.2.1 hb e,keepC h.2.2.1 hb e,keepC h.2.2.2 hb e⟩
structure Rats (w:World) (a:Option Addr) (n cap:Nat) (q:Nat→Rat):Prop where
 le:n<=cap
 nil:a=none→cap=0
 at_:∀ x,a=some x→x.spot=none/\x.block<w.heap.size/\∀ i,i<n→∃ r,RCat w x.block (x.off+i*4) r/\aj w r.agg (q i)
theorem Rats.cells{w:World}{n e:Nat}{a:Option Addr}{q:Nat->Rat}(h:Rats w a n e q)(C:0<n):
 ∃b off,a=some ⟨b,off,.none⟩/\b<w.heap.size/\n<=e/\∀i,i<n->∃r,RCat w b (off+i*4) r/\aj w r.agg (q i):=by
 cases a with
 | none=>have:=h.nil rfl;have:=h.le;omega
 | some x =>
  obtain⟨j,u,A⟩:=h.at_ x rfl;obtain⟨b,off,s⟩:=x;simp only at j;subst j;exact⟨b,off,rfl,u,h.le,A⟩
def psum(q:Nat->Rat):Nat->Rat
 | 0=>0
 | n+1=>psum q n+q n
theorem Bd.psum{q:Nat->Rat}{k n:Nat}(h:∀i,i<n->Bd k (q i)):Bd (n*(k+1)+1) (psum q n):=by
 induction n with
 | zero=>rw[Nat.zero_mul];exact Bd.zero
 | succ n ih =>
  have:=(ih (fun i hi=>h i I)).add (h n I);rw[show(n+1)*(k+1)+1=n*(k+1)+1+k+1 by rw[Nat.add_mul];omega];exact this
theorem Sum_any(a:Option Addr)(n R:Nat)(q:Nat->Rat)(k:Nat)(w:World)(hQ:Rats w a n R q)(hk:∀i,i<n->Bd k (q i))(hn:n*(k+1)+1+k<1000000):
 Calls prog 76 #[.slice a n R] w fun e w'=>dO w' e (psum q n)/\Bl w w':=by
 obtain⟨HQ,HK,HN⟩:=η3 hQ hk hn;obtain⟨W,hW,b1,b2,hB,hS⟩:=bY w #[.bool false,.slice none 0 0,.bool false,.slice none 0 0] #[.bool false,.slice none 0 0,.bool false,.slice none 0 0] 55 55;obtain⟨B1,B2,au,ay⟩:=η4 b1 b2 hB hS;have a2:n<=1000000:=by have:=Nat.le_mul_of_pos_right n (show 0<k+1 by omega);omega
 clear hQ hk b1 b2 hB hS hn
 go_enter func76,ntmps76
 go_wp2_with fail
 go_loopw [8] (fun iv wr=>∃j r,j<=n/\iv=.int .i64 (j:Nat)/\Hid (Box wr (w.heap.size+1) #[.bool r.s,.slice r.a r.n r.c,.bool r.t,.slice r.b r.m r.d] 55)/\Hid (aj wr (RC.agg r) (psum q j))/\Hid (Box wr w.heap.size #[.bool false,.slice none 0 0,.bool false,.slice none 0 0] 55)/\Hid (Bl w wr)) (fun iv _=>n-(intOf iv).toNat)
 case atStart=>exact⟨0,RC.zero,Nat.zero_le _,rfl,B2.o,aj.zero _,B1.o,au.o⟩
 case round =>
  obtain⟨j,r,hj,rfl,F,Q,A,J⟩:=hrel;by_cases h0:j=n
  ·subst h0
   have hn:¬ (j:Int)<(j:Int):=I;obtain⟨x0,x1,x2,x3,x4⟩:=F.o.four;obtain⟨y0,y1,y2,y3,y4⟩:=A.o.four;go_wp2;exact aL results76 w.heap.size (A.o.set4 (.bool r.s) (.slice r.a r.n r.c) (.bool r.t) (.slice r.b r.m r.d)) _ rfl underlying55 rfl aY rfl
    ⟨⟨_,rfl,Q.o.store4 A.o _ _ _ _⟩,aR J.o ρ _ _ _ _⟩
  ·have ac:j<n:=I
   obtain⟨b,off,rfl,hb,hc,aa⟩:=HQ.o.cells I;obtain⟨u,ag,ad⟩:=aa j ac;have an:=ag.below J.o hb;have H0:=O (ad.below J.o);obtain⟨c0,c1,c2,c3⟩:=an;have a1:(j:Int)<(n:Int):=I;have a0:b≠w.heap.size+1:=I;have az:w.heap.size+1<wr.heap.size:=F.o.lt;have HJ:=O ac;have Y:Bd (j*(k+1)+1) (psum q j):=Bd.psum (fun i hi=>HK.o i I);have ar:=O Y;have G:=F.o.old (.cells #[.bool u.s,.slice u.a u.n u.c,.bool u.t,.slice u.b u.m u.d] 55);have E:=O G;obtain⟨y0,y1,y2,y3,y4⟩:=G.four;have ab:j*(k+1)+1+k<1000000:=by
    have h1:=HN.o;have h2:=Nat.mul_le_mul_right (k+1) hj;omega
   have av:=O ab;clear aa ag ad Y G ab h0
   go_wp2_with fail
   refine(iH r.agg u.agg (psum q j) (q j) (j*(k+1)+1) k _ (Q.o.below (β.alloc ρ _)) (H0.o.below (β.alloc ρ _)) ar.o (HK.o j HJ.o) av.o).mono ?_;rintro e w1 ⟨⟨v1,rfl,ao⟩,C⟩;obtain⟨r1,rfl,af⟩:=ao.rcv;have H:=E.o.to C;obtain⟨z0,z1,z2,z3,z4⟩:=H.four;obtain⟨H1,L⟩:=η2 af H;have X:=(A.o.old (.cells #[.bool u.s,.slice u.a u.n u.c,.bool u.t,.slice u.b u.m u.d] 55)).below C (A.o.old _).lt;have ap:=O X;have U:Bl w w1:=ae (J.o.alloc (by have:=J.o.size;exact this) _) C (by have:=J.o.size;have:=E.o.lt;omega);have aw:=O U;clear ao af C H X U y0 y1 y2 y3 y4;go_wp2;go_round
   case rel=>exact⟨j+1,r1,by have:=HJ.o;omega,rfl,L.o.set4 _ _ _ _,H1.o.store4 L.o _ _ _ _,ap.o.other4 I _ _ _ _,aR aw.o I _ _ _ _⟩
   case measure=>show n-((j:Int)+1).toNat<n-((j:Int)).toNat;have:=HJ.o;omega
theorem Make_any(va vb:Value)(x y:Int)(w:World)(ha:aU w va x)(hb:aU w vb y)(sx:Small x)(sy:Small y)(J:y≠0):
 Calls prog 119 #[va,vb] w fun e w'=>jt w' e (Rat.divInt x y)/\Bl w w':=by
 obtain⟨I1,Q,SX,U,HY⟩:=η5 ha hb sx sy J;obtain⟨s1,a1,n1,c1,d1,rfl,-⟩:=ha;obtain⟨s2,a2,n2,c2,d2,rfl,-⟩:=hb;obtain⟨c,hc⟩:=χ (dj y 0);have aa:(c == 0)=false:=by rw[beq_eq_false_iff_ne,<-hc];intro h;exact J (uk.1 h)
 have F:=O hc;obtain⟨W,hW,b1,b2,X,Y,hS⟩:=bX w #[.bool s1,.slice a1 n1 c1] #[.bool s2,.slice a2 n2 c2] #[.bool false,.slice none 0 0,.bool false,.slice none 0 0] 53 53 55;obtain⟨B1,B2,B3,u,j⟩:=η5 b1 b2 X Y hS;obtain⟨y0,y1,y2,y3⟩:=b2.two;clear sx sy J hc b1 b2 X Y hS
 go_enter func119,ntmps119
 go_wp2_with fail
 refine(fG _ y _ (Q.o.below u.o) U.o).mono ?_;rw[F.o];rintro e w0 ⟨rfl,A⟩;have G:=O A;obtain⟨z0,z1,z2,z3⟩:=(B1.o.below A (ψ j.o)).two;obtain⟨u0,u1,u2,u3⟩:=(B2.o.below A (ψ j.o)).two;clear A y0 y1 y2 y3
 go_wp2_with fail
 refine(iL _ _ x y _ (I1.o.below (ae u.o G.o (ψ j.o))) (Q.o.below (ae u.o G.o (ψ j.o))) SX.o U.o HY.o).mono ?_;rintro e w1 ⟨⟨v1,rfl,E⟩,C⟩;have V1:=O E;have R:Hid (Bl W w1):=ae G.o C ρ;obtain⟨s5,a5,n5,c5,s6,a6,n6,c6,d5,rfl,-⟩:=E;have H:=B3.o.below R.o (ψ j.o);have L:=O H;obtain⟨t0,t1,t2,t3,t4⟩:=H.four;clear C H z0 z1 z2 z3 u0 u1 u2 u3;go_wp2;exact bQ results119 (w.heap.size+2) (L.o.set4 (.bool s5) (.slice a5 n5 c5) (.bool s6) (.slice a6 n6 c6)) _ rfl underlying55 rfl aY rfl
  ⟨⟨_,rfl,V1.o.store4 L.o _ _ _ _⟩,aR (ae u.o R.o (ψ j.o)) I _ _ _ _⟩
structure Q3 where
 x:Rat
 y:Rat
 z:Rat
def ah(r0 r1 r2:RC):Array Value:=
 #[.bool r0.s,.slice r0.a r0.n r0.c,.bool r0.t,.slice r0.b r0.m r0.d,.bool r1.s,.slice r1.a r1.n r1.c,.bool r1.t,.slice r1.b r1.m r1.d,.bool r2.s,.slice r2.a r2.n r2.c,.bool r2.t,.slice r2.b r2.m r2.d]
theorem jc:ah RC.zero RC.zero RC.zero=#[.bool false,.slice none 0 0,.bool false,.slice none 0 0,.bool false,.slice none 0 0,.bool false,.slice none 0 0,.bool false,.slice none 0 0,.bool false,.slice none 0 0]:=rfl
def aA(w:World)(v:Value)(q:Q3):Prop:=∃r0 r1 r2:RC,v=.agg (ah r0 r1 r2)/\aj w r0.agg q.x/\aj w r1.agg q.y/\aj w r2.agg q.z
theorem aA.below{w w':World}{v:Value}{q:Q3}(h:aA w v q)(hb:Bl w w'):aA w' v q:=by
 obtain⟨C,E,F,e,j,u,A⟩:=h;exact⟨C,E,F,e,j.below hb,u.below hb,A.below hb⟩
def fI(w:World)(e:Ending)(q:Q3):Prop:=∃v,e=.returned v/\aA w v q
def At4(w:World)(g o:Nat)(r:RC):Prop:=
 (w.cell? ⟨g,o,.none⟩=.some (.bool r.s)/\w.cell? ⟨g,o+1,.none⟩=.some (.slice r.a r.n r.c)/\w.cell? ⟨g,o+2,.none⟩=.some (.bool r.t)/\w.cell? ⟨g,o+3,.none⟩=.some (.slice r.b r.m r.d)) /\
 w.frozen? ⟨g,o,.none⟩=false/\w.frozen? ⟨g,o+1,.none⟩=false/\w.frozen? ⟨g,o+2,.none⟩=false/\w.frozen? ⟨g,o+3,.none⟩=false
theorem Box.p0{w:World}{g:Nat}{e j u:RC}{t:TypeId}(h:Box w g (ah e j u) t):At4 w g 0 e:=
 ⟨⟨(h.cell 0).trans rfl,(h.cell 1).trans rfl,(h.cell 2).trans rfl,(h.cell 3).trans rfl⟩,h.free 0,h.free 1,h.free 2,h.free 3⟩
theorem Box.p1{w:World}{g:Nat}{j e u:RC}{t:TypeId}(h:Box w g (ah j e u) t):At4 w g 4 e:=
 ⟨⟨(h.cell 4).trans rfl,(h.cell 5).trans rfl,(h.cell 6).trans rfl,(h.cell 7).trans rfl⟩,h.free 4,h.free 5,h.free 6,h.free 7⟩
theorem Box.p2{w:World}{g:Nat}{j u e:RC}{t:TypeId}(h:Box w g (ah j u e) t):At4 w g 8 e:=
 ⟨⟨(h.cell 8).trans rfl,(h.cell 9).trans rfl,(h.cell 10).trans rfl,(h.cell 11).trans rfl⟩,h.free 8,h.free 9,h.free 10,h.free 11⟩
def put4(w:World)(g o:Nat)(r:RC):World:=
 (((w.setCell ⟨g,o,.none⟩ (.bool r.s)).setCell ⟨g,o+1,.none⟩ (.slice r.a r.n r.c)).setCell ⟨g,o+2,.none⟩ (.bool r.t)).setCell ⟨g,o+3,.none⟩ (.slice r.b r.m r.d)
theorem Box.s0{w:World}{g:Nat}{u e j:RC}{t:TypeId}(h:Box w g (ah u e j) t)(r:RC):Box (put4 w g 0 r) g (ah r e j) t:=
 (((h.set 0 (.bool r.s)).set 1 (.slice r.a r.n r.c)).set 2 (.bool r.t)).set 3 (.slice r.b r.m r.d)
theorem Box.s1{w:World}{g:Nat}{e u j:RC}{t:TypeId}(h:Box w g (ah e u j) t)(r:RC):Box (put4 w g 4 r) g (ah e r j) t:=
 (((h.set 4 (.bool r.s)).set 5 (.slice r.a r.n r.c)).set 6 (.bool r.t)).set 7 (.slice r.b r.m r.d)
theorem Box.s2{w:World}{g:Nat}{e j u:RC}{t:TypeId}(h:Box w g (ah e j u) t)(r:RC):Box (put4 w g 8 r) g (ah e j r) t:=
 (((h.set 8 (.bool r.s)).set 9 (.slice r.a r.n r.c)).set 10 (.bool r.t)).set 11 (.slice r.b r.m r.d)
theorem aN{w w':World}{n g:Nat}(h:Below n w w')(e:n<=g)(o:Nat)(r:RC):Below n w (put4 w' g o r):=
 (((h.setCell e _).setCell e _).setCell e _).setCell e _
theorem ck{w w':World}{n g:Nat}(h:Below n w w')(e:n<=g)(i j k l:Nat)(x y z u:Value):
 Below n w ((((w'.setCell ⟨g,i,.none⟩ x).setCell ⟨g,j,.none⟩ y).setCell ⟨g,k,.none⟩ z).setCell ⟨g,l,.none⟩ u):=
 (((h.setCell e _).setCell e _).setCell e _).setCell e _
theorem Box.oput4{w:World}{g:Nat}{cs:Array Value}{t:TypeId}(h:Box w g cs t){g':Nat}(e:g≠g')(o:Nat)(r:RC):Box (put4 w g' o r) g cs t:=
 (h.other2 e _ _).other2 e _ _
theorem aU.put4{w:World}{v:Value}{z:Int}(h:aU w v z){g o:Nat}{r:RC}(ha:At4 w g o r)(C:RC):aU (put4 w g o C) v z:=by
 obtain⟨⟨h0,j,u,A⟩,-⟩:=ha;refine(((h.setCell h0 (g9.bool _) _).setCell ?_ (g9.slice r.a r.n r.c) _).setCell ?_ (g9.bool r.t) _).setCell ?_ (g9.slice r.b r.m r.d) _
 ·rw[World.cell?_setCell_other _ _ _ _ (by intro e;injection e;omega)];exact j
 ·rw[World.cell?_setCell_other _ _ _ _ (by intro e;injection e;omega),World.cell?_setCell_other _ _ _ _ (by intro e;injection e;omega)];exact u
 ·rw[World.cell?_setCell_other _ _ _ _ (by intro e;injection e;omega),World.cell?_setCell_other _ _ _ _ (by intro e;injection e;omega),World.cell?_setCell_other _ _ _ _ (by intro e;injection e;omega)];exact A
theorem aj.put4{w:World}{v:Value}{q:Rat}(h:aj w v q){g o:Nat}{r:RC}(ha:At4 w g o r)(H:RC):aj (put4 w g o H) v q:=by
 obtain⟨s1,e,F,c1,s2,j,G,c2,d,u,A,C,E⟩:=h;exact⟨s1,e,F,c1,s2,j,G,c2,d,u,A.put4 ha _,C.put4 ha _,E⟩
theorem aA.put4{w:World}{v:Value}{q:Q3}(h:aA w v q){g o:Nat}{r:RC}(ha:At4 w g o r)(C:RC):aA (Υ.put4 w g o C) v q:=by
 obtain⟨E,F,G,e,j,u,A⟩:=h;exact⟨E,F,G,e,j.put4 ha _,u.put4 ha _,A.put4 ha _⟩
def put12(w:World)(g:Nat)(r0 r1 r2:RC):World:=put4 (put4 (put4 w g 0 r0) g 4 r1) g 8 r2
theorem Box.s12{w:World}{g:Nat}{e j u:RC}{t:TypeId}(h:Box w g (ah e j u) t)(a b c:RC):Box (put12 w g a b c) g (ah a b c) t:=((h.s0 a).s1 b).s2 c
theorem bh{w w':World}{n g:Nat}(h:Below n w w')(e:n<=g)(a b c:RC):Below n w (put12 w' g a b c):=aN (aN (aN h e _ _) e _ _) e _ _
theorem aj.put12{w:World}{v:Value}{q:Rat}(h:aj w v q){g:Nat}{e j u:RC}{t:TypeId}(hb:Box w g (ah e j u) t)(a b c:RC):aj (put12 w g a b c) v q:=
 ((h.put4 hb.p0 a).put4 (hb.s0 a).p1 b).put4 ((hb.s0 a).s1 b).p2 c
theorem aA.put12{w:World}{v:Value}{q:Q3}(h:aA w v q){g:Nat}{e j u:RC}{t:TypeId}(hb:Box w g (ah e j u) t)(a b c:RC):aA (Υ.put12 w g a b c) v q:=
 ((h.put4 hb.p0 a).put4 (hb.s0 a).p1 b).put4 ((hb.s0 a).s1 b).p2 c
theorem aP:(prog.info? 57).map (·.size)=some 12:=by kernel_rfl
theorem lj(p:V)(w:World)(h:LeV 9007199254740992 p):
 Calls prog 22 #[dQ p] w fun e w'=>fI w' e ⟨(p.x:Rat),(p.y:Rat),(p.z:Rat)⟩/\Bl w w':=by
 unfold dQ;have hf:=dV;have HX:=O (fun w=>hf p.x w (by have:=h.1;unfold Le at this;omega) (by have:=h.1;unfold Le at this;omega));have HY:=O (fun w=>hf p.y w (by have:=h.2.1;unfold Le at this;omega) (by have:=h.2.1;unfold Le at this;omega));have HZ:=O (fun w=>hf p.z w (by have:=h.2.2;unfold Le at this;omega) (by have:=h.2.2;unfold Le at this;omega));clear h hf;obtain⟨W,hW,b1,b2,b3,hB,hS⟩:=bX w #[.int .i64 p.x,.int .i64 p.y,.int .i64 p.z] (ah RC.zero RC.zero RC.zero) (ah RC.zero RC.zero RC.zero) 77 57 57;obtain⟨B2,B3,ay,az⟩:=η4 b2 b3 hB hS;rw[jc]at hW;obtain⟨q0,q1,q2,-⟩:=b1.three;clear b2 b3 b1 hB hS;have i0:∀w,(Instr.index 77 (.agg #[.int .i64 p.x,.int .i64 p.y,.int .i64 p.z]) (.int .i64 0)).run prog w=.ok (.int .i64 p.x) w:=fun _=>by kernel_rfl
 have i1:∀w,(Instr.index 77 (.agg #[.int .i64 p.x,.int .i64 p.y,.int .i64 p.z]) (.int .i64 1)).run prog w=.ok (.int .i64 p.y) w:=fun _=>by kernel_rfl
 have i2:∀w,(Instr.index 77 (.agg #[.int .i64 p.x,.int .i64 p.y,.int .i64 p.z]) (.int .i64 2)).run prog w=.ok (.int .i64 p.z) w:=fun _=>by kernel_rfl
 go_enter func22,ntmps22
 go_wp2_with fail
 refine aT.loop 4 ?_;refine aT.next (fun K hK=>?_)
 go_wp2_with fail
 refine(HX.o _).mono ?_;rintro e w1 ⟨⟨v1,rfl,ao⟩,A⟩;obtain⟨J,rfl,af⟩:=ao.rcv;obtain⟨L1,au,L⟩:=η3 (ae ay.o A (ψ az.o)) (B2.o.to A) (B3.o.to A);obtain⟨⟨R,U,X,Y⟩,x4,x5,x6,x7⟩:=L.o.p0;obtain⟨S0,M1⟩:=η2 af A;clear ao af A
 go_wp2_with fail
 clear R U X Y x4 x5 x6 x7;change aT _ _ _ _ _ (put4 w1 (w.heap.size+2) 0 J);obtain⟨aa,ac,a0,K1⟩:=η4 (au.o.oput4 (g':=w.heap.size+2) I 0 J) (L.o.s0 J) (S0.o.put4 L.o.p0 J) (aN L1.o (Nat.le_add_right _ 2) 0 J);generalize put4 w1 (w.heap.size+2) 0 J=W1 at *;refine aT.next (fun K hK=>?_)
 go_wp2_with fail
 refine(HY.o _).mono ?_;rintro e w2 ⟨⟨v2,rfl,ap⟩,C⟩;obtain⟨H,rfl,ag⟩:=ap.rcv;obtain⟨L2,av,G⟩:=η3 (ae K1.o C (ψ K1.o.size)) (aa.o.to C) (ac.o.to C);obtain⟨⟨R,U,X,Y⟩,x4,x5,x6,x7⟩:=G.o.p1;obtain⟨S1,M2⟩:=η2 ag C;clear ap ag C
 go_wp2_with fail
 clear R U X Y x4 x5 x6 x7;change aT _ _ _ _ _ (put4 w2 (w.heap.size+2) 4 H);obtain⟨ab,ad,a3,K2,a1⟩:=η5 (av.o.oput4 (g':=w.heap.size+2) I 4 H) (G.o.s1 H) (S1.o.put4 G.o.p1 H) (aN L2.o (Nat.le_add_right _ 2) 4 H) ((a0.o.below M2.o).put4 G.o.p1 H);generalize put4 w2 (w.heap.size+2) 4 H=W2 at *;refine aT.next (fun K hK=>?_)
 go_wp2_with fail
 refine(HZ.o _).mono ?_;rintro e w3 ⟨⟨v3,rfl,ar⟩,E⟩;obtain⟨F,rfl,an⟩:=ar.rcv;obtain⟨L3,aw,u⟩:=η3 (ae K2.o E (ψ K2.o.size)) (ab.o.to E) (ad.o.to E);obtain⟨⟨R,U,X,Y⟩,x4,x5,x6,x7⟩:=u.o.p2;obtain⟨S2,M3⟩:=η2 an E;clear ar an E
 go_wp2_with fail
 clear R U X Y x4 x5 x6 x7;change aT _ _ _ _ _ (put4 w3 (w.heap.size+2) 8 F);obtain⟨j,Q,a5,K3,a2,a4⟩:=η6 (aw.o.oput4 (g':=w.heap.size+2) I 8 F) (u.o.s2 F) (S2.o.put4 u.o.p2 F) (aN L3.o (Nat.le_add_right _ 2) 8 F) ((a1.o.below M3.o).put4 u.o.p2 F) ((a3.o.below M3.o).put4 u.o.p2 F);generalize put4 w3 (w.heap.size+2) 8 F=W3 at *;refine aT.next (fun K hK=>?_);obtain⟨⟨R,U,X,Y⟩,-⟩:=Q.o.p0;obtain⟨⟨x4,x5,x6,x7⟩,-⟩:=Q.o.p1;obtain⟨⟨x8,x9,a8,a9⟩,-⟩:=Q.o.p2;obtain⟨⟨y0,y1,y2,y3⟩,f0,f1,f2,f3⟩:=j.o.p0;obtain⟨⟨y4,y5,y6,y7⟩,f4,f5,f6,f7⟩:=j.o.p1;obtain⟨⟨y8,y9,ba,bc⟩,f8,f9,a6,a7⟩:=j.o.p2;go_wp2;exact aL results22 (w.heap.size+1) (j.o.s12 J H F) _ rfl underlying57 rfl aP rfl
  ⟨⟨_,rfl,J,H,F,rfl,a2.o.put12 j.o _ _ _,a4.o.put12 j.o _ _ _,a5.o.put12 j.o _ _ _⟩,bh K3.o I _ _ _⟩
theorem mO(g:Nat)(cb:Array Value)(F:Rat->Rat->Rat)(a b:Q3)(va vb:Value)(w:World)(ha:aA w va a)(hb:aA w vb b)(eg:∀args w,(callFunc g args).run prog w=.ok (.enter g args) w)(hx:∀w',Bl w w'->∀ux uy,aj w' ux a.x->aj w' uy b.x->Calls prog g (#[ux,uy]++cb) w' fun e J=>dO J e (F a.x b.x)/\Bl w' J)(hy:∀w',Bl w w'->∀ux uy,aj w' ux a.y->aj w' uy b.y->Calls prog g (#[ux,uy]++cb) w' fun e J=>dO J e (F a.y b.y)/\Bl w' J)(hz:∀w',Bl w w'->∀ux uy,aj w' ux a.z->aj w' uy b.z->Calls prog g (#[ux,uy]++cb) w' fun e J=>dO J e (F a.z b.z)/\Bl w' J):
 Calls prog 74 #[va,vb,.func (.func g) #[] cb] w fun e w'=>fI w' e ⟨F a.x b.x,F a.y b.y,F a.z b.z⟩/\Bl w w':=by
 obtain⟨Hx,Hy,Hz⟩:=η3 hx hy hz;obtain⟨u,E,G,rfl,a7,a8,a9⟩:=ha;obtain⟨H,b1,b2,rfl,ba,bc,be⟩:=hb;obtain⟨W,hW,c1,c2,c3,c4,hB,hS⟩:=kI w (ah u E G) (ah H b1 b2) #[.bool false,.slice none 0 0,.bool false,.slice none 0 0,.bool false,.slice none 0 0,.bool false,.slice none 0 0,.bool false,.slice none 0 0,.bool false,.slice none 0 0] #[.bool false,.slice none 0 0,.bool false,.slice none 0 0,.bool false,.slice none 0 0,.bool false,.slice none 0 0,.bool false,.slice none 0 0,.bool false,.slice none 0 0] 57 57 57 57;obtain⟨A,Bb⟩:=η2 c1 c2;have C:Hid (Box W (w.heap.size+2) (ah RC.zero RC.zero RC.zero) 57):=c3;have D:Hid (Box W (w.heap.size+3) (ah RC.zero RC.zero RC.zero) 57):=c4;obtain⟨bp,av,ag,br,aw,an,a6,bu⟩:=η8 (a7.below hB) (a8.below hB) (a9.below hB) (ba.below hB) (bc.below hB) (be.below hB) hB hS;have G3:Hid (w.heap.size+2<=w.heap.size+1+1+1):=by show _<=_;omega
 clear a7 a8 a9 ba bc be hx hy hz c1 c2 c3 c4 hB hS;unfold ah at hW⊢
 go_enter func74,ntmps74
 go_wp2_with fail
 refine aT.loop 4 ?_;refine aT.next (fun K hK=>?_);have ac:Hid (∀w',Below (w.heap.size+2) W w'->Γ8 w' w.heap.size 0 (.bool u.s) w.heap.size 1 (.slice u.a u.n u.c) w.heap.size 2 (.bool u.t) w.heap.size 3 (.slice u.b u.m u.d) (w.heap.size+1) 0 (.bool H.s) (w.heap.size+1) 1 (.slice H.a H.n H.c) (w.heap.size+1) 2 (.bool H.t) (w.heap.size+1) 3 (.slice H.b H.m H.d)):=fun w' h=>by
  obtain⟨p0,p1,p2,p3⟩:=(A.o.below h I).p0.1;obtain⟨q0,q1,q2,q3⟩:=(Bb.o.below h I).p0.1;exact⟨p0,p1,p2,p3,q0,q1,q2,q3⟩
 have j:Hid (Bl W W.drew):=β.drew;have N0:Hid (Below (w.heap.size+2) W W.drew):=β.drew;have ao:=ac.o _ β
 go_wp2_with fail
 go_region_held3 (fun w'=>w'.cell? ⟨w.heap.size,0,none⟩=some (.bool u.s)/\w'.cell? ⟨w.heap.size,1,none⟩=some (.slice u.a u.n u.c)/\w'.cell? ⟨w.heap.size,2,none⟩=some (.bool u.t)/\w'.cell? ⟨w.heap.size,3,none⟩=some (.slice u.b u.m u.d)/\w'.cell? ⟨w.heap.size+1,0,none⟩=some (.bool H.s)/\w'.cell? ⟨w.heap.size+1,1,none⟩=some (.slice H.a H.n H.c)/\w'.cell? ⟨w.heap.size+1,2,none⟩=some (.bool H.t)/\w'.cell? ⟨w.heap.size+1,3,none⟩=some (.slice H.b H.m H.d))
  (with_reducible first|exact(ac.o _ (ck N1.o G3.o _ _ _ _ _ _ _ _))|exact(ac.o _ N1.o)|exact(ac.o _ N0.o))
  (first
   | (refine(Hx.o _ (a6.o.drew) _ _ (bp.o.below j.o) (br.o.below j.o)).mono ?_;rintro e w1 ⟨⟨v1,rfl,bk⟩,ay⟩
      obtain⟨Q,rfl,bf⟩:=bk.rcv;have M1:Hid (Bl W w1):=ae j.o ay ρ;have N1:Hid (Below (w.heap.size+2) W w1):=ae N0.o ay (ψ D.o.lt);have S0:=O bf;obtain⟨⟨x0,x1,x2,x3⟩,x4,x5,x6,x7⟩:=(D.o.to M1.o).p0;clear bk bf ay))
 clear ao x0 x1 x2 x3 x4 x5 x6 x7
 go_wp2_with fail
 change aT _ _ _ _ _ (put4 w1 (w.heap.size+3) 0 Q);obtain⟨E1,ap,aa,a4⟩:=η4 (D.o.to M1.o) ((A.o.to M1.o).oput4 (g':=w.heap.size+3) I 0 Q) ((Bb.o.to M1.o).oput4 (g':=w.heap.size+3) I 0 Q) ((C.o.to M1.o).oput4 (g':=w.heap.size+3) I 0 Q);obtain⟨R,T0⟩:=η2 (E1.o.s0 Q) (S0.o.put4 E1.o.p0 Q);replace av:=O ((av.o.below M1.o).put4 E1.o.p0 Q);replace ag:=O ((ag.o.below M1.o).put4 E1.o.p0 Q);replace aw:=O ((aw.o.below M1.o).put4 E1.o.p0 Q);replace an:=O ((an.o.below M1.o).put4 E1.o.p0 Q);have K1:=O (aN (ae a6.o M1.o (ψ D.o.lt)) (Nat.le_add_right _ 3) 0 Q);clear ac j N0 N1 S0;clear M1 E1;generalize put4 w1 (w.heap.size+3) 0 Q=U1 at *;refine aT.next (fun K hK=>?_);have ad:Hid (∀w',Below (w.heap.size+2) U1 w'->Γ8 w' w.heap.size 4 (.bool E.s) w.heap.size 5 (.slice E.a E.n E.c) w.heap.size 6 (.bool E.t) w.heap.size 7 (.slice E.b E.m E.d) (w.heap.size+1) 4 (.bool b1.s) (w.heap.size+1) 5 (.slice b1.a b1.n b1.c) (w.heap.size+1) 6 (.bool b1.t) (w.heap.size+1) 7 (.slice b1.b b1.m b1.d)):=fun w' h=>by
  obtain⟨p0,p1,p2,p3⟩:=(ap.o.below h I).p1.1;obtain⟨q0,q1,q2,q3⟩:=(aa.o.below h I).p1.1;exact⟨p0,p1,p2,p3,q0,q1,q2,q3⟩
 have j:Hid (Bl U1 U1.drew):=β.drew;have N0:Hid (Below (w.heap.size+2) U1 U1.drew):=β.drew;have ao:=ad.o _ β
 go_wp2_with fail
 go_region_held3 (fun w'=>w'.cell? ⟨w.heap.size,4,none⟩=some (.bool E.s)/\w'.cell? ⟨w.heap.size,5,none⟩=some (.slice E.a E.n E.c)/\w'.cell? ⟨w.heap.size,6,none⟩=some (.bool E.t)/\w'.cell? ⟨w.heap.size,7,none⟩=some (.slice E.b E.m E.d)/\w'.cell? ⟨w.heap.size+1,4,none⟩=some (.bool b1.s)/\w'.cell? ⟨w.heap.size+1,5,none⟩=some (.slice b1.a b1.n b1.c)/\w'.cell? ⟨w.heap.size+1,6,none⟩=some (.bool b1.t)/\w'.cell? ⟨w.heap.size+1,7,none⟩=some (.slice b1.b b1.m b1.d))
  (with_reducible first|exact(ad.o _ (ck N2.o G3.o _ _ _ _ _ _ _ _))|exact(ad.o _ N2.o)|exact(ad.o _ N0.o))
  (first
   | (refine(Hy.o _ (K1.o.drew) _ _ (av.o.below j.o) (aw.o.below j.o)).mono ?_;rintro e w2 ⟨⟨v2,rfl,bl⟩,az⟩
      obtain⟨X,rfl,bg⟩:=bl.rcv;have M2:Hid (Bl U1 w2):=ae j.o az ρ;have N2:Hid (Below (w.heap.size+2) U1 w2):=ae N0.o az (ψ R.o.lt);have S1:=O bg;obtain⟨⟨x0,x1,x2,x3⟩,x4,x5,x6,x7⟩:=(R.o.to M2.o).p1;clear bl bg az))
 clear ao x0 x1 x2 x3 x4 x5 x6 x7
 go_wp2_with fail
 change aT _ _ _ _ _ (put4 w2 (w.heap.size+3) 4 X);obtain⟨E2,ar,ab,a5⟩:=η4 (R.o.to M2.o) ((ap.o.to M2.o).oput4 (g':=w.heap.size+3) I 4 X) ((aa.o.to M2.o).oput4 (g':=w.heap.size+3) I 4 X) ((a4.o.to M2.o).oput4 (g':=w.heap.size+3) I 4 X);obtain⟨U,T1⟩:=η2 (E2.o.s1 X) (S1.o.put4 E2.o.p1 X);replace ag:=O ((ag.o.below M2.o).put4 E2.o.p1 X);replace an:=O ((an.o.below M2.o).put4 E2.o.p1 X);replace T0:=O ((T0.o.below M2.o).put4 E2.o.p1 X);have K2:=O (aN (ae K1.o M2.o (ψ R.o.lt)) (Nat.le_add_right _ 3) 4 X);clear ad j N0 N2 S1;clear M2 E2;generalize put4 w2 (w.heap.size+3) 4 X=U2 at *;refine aT.next (fun K hK=>?_);have af:Hid (∀w',Below (w.heap.size+2) U2 w'->Γ8 w' w.heap.size 8 (.bool G.s) w.heap.size 9 (.slice G.a G.n G.c) w.heap.size 10 (.bool G.t) w.heap.size 11 (.slice G.b G.m G.d) (w.heap.size+1) 8 (.bool b2.s) (w.heap.size+1) 9 (.slice b2.a b2.n b2.c) (w.heap.size+1) 10 (.bool b2.t) (w.heap.size+1) 11 (.slice b2.b b2.m b2.d)):=fun w' h=>by
  obtain⟨p0,p1,p2,p3⟩:=(ar.o.below h I).p2.1;obtain⟨q0,q1,q2,q3⟩:=(ab.o.below h I).p2.1;exact⟨p0,p1,p2,p3,q0,q1,q2,q3⟩
 have j:Hid (Bl U2 U2.drew):=β.drew;have N0:Hid (Below (w.heap.size+2) U2 U2.drew):=β.drew;have ao:=af.o _ β
 go_wp2_with fail
 go_region_held3 (fun w'=>w'.cell? ⟨w.heap.size,8,none⟩=some (.bool G.s)/\w'.cell? ⟨w.heap.size,9,none⟩=some (.slice G.a G.n G.c)/\w'.cell? ⟨w.heap.size,10,none⟩=some (.bool G.t)/\w'.cell? ⟨w.heap.size,11,none⟩=some (.slice G.b G.m G.d)/\w'.cell? ⟨w.heap.size+1,8,none⟩=some (.bool b2.s)/\w'.cell? ⟨w.heap.size+1,9,none⟩=some (.slice b2.a b2.n b2.c)/\w'.cell? ⟨w.heap.size+1,10,none⟩=some (.bool b2.t)/\w'.cell? ⟨w.heap.size+1,11,none⟩=some (.slice b2.b b2.m b2.d))
  (with_reducible first|exact(af.o _ (ck N3.o G3.o _ _ _ _ _ _ _ _))|exact(af.o _ N3.o)|exact(af.o _ N0.o))
  (first
   | (refine(Hz.o _ (K2.o.drew) _ _ (ag.o.below j.o) (an.o.below j.o)).mono ?_;rintro e w3 ⟨⟨v3,rfl,bm⟩,a3⟩
      obtain⟨Y,rfl,bi⟩:=bm.rcv;have M3:Hid (Bl U2 w3):=ae j.o a3 ρ;have N3:Hid (Below (w.heap.size+2) U2 w3):=ae N0.o a3 (ψ U.o.lt);have S2:=O bi;obtain⟨⟨x0,x1,x2,x3⟩,x4,x5,x6,x7⟩:=(U.o.to M3.o).p2;clear bm bi a3))
 clear ao x0 x1 x2 x3 x4 x5 x6 x7
 go_wp2_with fail
 change aT _ _ _ _ _ (put4 w3 (w.heap.size+3) 8 Y);obtain⟨E3,bt,bs,L⟩:=η4 (U.o.to M3.o) ((ar.o.to M3.o).oput4 (g':=w.heap.size+3) I 8 Y) ((ab.o.to M3.o).oput4 (g':=w.heap.size+3) I 8 Y) ((a5.o.to M3.o).oput4 (g':=w.heap.size+3) I 8 Y);obtain⟨au,T2⟩:=η2 (E3.o.s2 Y) (S2.o.put4 E3.o.p2 Y);replace T0:=O ((T0.o.below M3.o).put4 E3.o.p2 Y);replace T1:=O ((T1.o.below M3.o).put4 E3.o.p2 Y);have K3:=O (aN (ae K2.o M3.o (ψ U.o.lt)) (Nat.le_add_right _ 3) 8 Y);clear af j N0 N3 S2;clear M3 E3;generalize put4 w3 (w.heap.size+3) 8 Y=U3 at *;refine aT.next (fun K hK=>?_);obtain⟨⟨x0,x1,x2,x3⟩,-⟩:=au.o.p0;obtain⟨⟨x4,x5,x6,x7⟩,-⟩:=au.o.p1;obtain⟨⟨x8,x9,bF,bI⟩,-⟩:=au.o.p2;obtain⟨⟨y0,y1,y2,y3⟩,f0,f1,f2,f3⟩:=L.o.p0;obtain⟨⟨y4,y5,y6,y7⟩,f4,f5,f6,f7⟩:=L.o.p1;obtain⟨⟨y8,y9,bV,b3⟩,f8,f9,bv,bz⟩:=L.o.p2;go_wp2;exact aL results74 (w.heap.size+2) (L.o.s12 Q X Y) _ rfl underlying57 rfl aP rfl
  ⟨⟨_,rfl,Q,X,Y,rfl,T0.o.put12 L.o _ _ _,T1.o.put12 L.o _ _ _,T2.o.put12 L.o _ _ _⟩,bh K3.o I _ _ _⟩
def BdV(k:Nat)(q:Q3):Prop:=Bd k q.x/\Bd k q.y/\Bd k q.z
theorem aA.rcv{w:World}{v:Value}{q:Q3}(h:aA w v q):∃e j u:RC,v=.agg #[.bool e.s,.slice e.a e.n e.c,.bool e.t,.slice e.b e.m e.d,.bool j.s,.slice j.a j.n j.c,.bool j.t,.slice j.b j.m j.d,.bool u.s,.slice u.a u.n u.c,.bool u.t,.slice u.b u.m u.d]/\aA w (.agg (ah e j u)) q:=by
 obtain⟨e,j,u,rfl,A,C,E⟩:=h;exact⟨e,j,u,rfl,e,j,u,rfl,A,C,E⟩
theorem aA.zero(w:World):aA w (.agg (ah RC.zero RC.zero RC.zero)) ⟨0,0,0⟩:=⟨_,_,_,rfl,aj.zero w,aj.zero w,aj.zero w⟩
theorem entersAdd:∀args w,(callFunc 25 args).run prog w=.ok (.enter 25 args) w:=
 enters_of func25 Z rfl
theorem entersSub:∀args w,(callFunc 154 args).run prog w=.ok (.enter 154 args) w:=
 enters_of func154 Z rfl
theorem entersMul:∀args w,(callFunc 31 args).run prog w=.ok (.enter 31 args) w:=
 enters_of func31 Z rfl
theorem jq(va vb:Value)(a b:Q3)(k l:Nat)(w:World)(ha:aA w va a)(hb:aA w vb b)(U:BdV k a)(X:BdV l b)(Q:k+l<1000000):
 Calls prog 26 #[va,vb] w fun e w'=>fI w' e ⟨a.x+b.x,a.y+b.y,a.z+b.z⟩/\Bl w w':=by
 have hc:=fun w' u A=>mO 25 #[] (· + ·) a b va vb w' u A entersAdd
  (fun w' _ H J u A=>iH H J a.x b.x k l w' u A U.1 X.1 Q)
  (fun w' _ H J u A=>iH H J a.y b.y k l w' u A U.2.1 X.2.1 Q)
  (fun w' _ H J u A=>iH H J a.z b.z k l w' u A U.2.2 X.2.2 Q)
 obtain⟨HA,HB⟩:=η2 ha hb;obtain⟨a0,a1,a2,rfl,-⟩:=ha;obtain⟨b0,b1,b2,rfl,-⟩:=hb;have HC:=O hc;obtain⟨W,hW,c1,c2,c3,F,hS⟩:=bX w (ah a0 a1 a2) (ah b0 b1 b2) #[.bool false,.slice none 0 0,.bool false,.slice none 0 0,.bool false,.slice none 0 0,.bool false,.slice none 0 0,.bool false,.slice none 0 0,.bool false,.slice none 0 0] 57 57 57;have C:Hid (Box W (w.heap.size+2) (ah RC.zero RC.zero RC.zero) 57):=c3;obtain⟨j,Y⟩:=η2 F hS;obtain⟨⟨x0,x1,x2,x3⟩,-⟩:=c1.p0;obtain⟨⟨x4,x5,x6,x7⟩,-⟩:=c1.p1;obtain⟨⟨x8,x9,aa,ab⟩,-⟩:=c1.p2;obtain⟨⟨y0,y1,y2,y3⟩,-⟩:=c2.p0;obtain⟨⟨y4,y5,y6,y7⟩,-⟩:=c2.p1;obtain⟨⟨y8,y9,ac,ad⟩,-⟩:=c2.p2;clear hc U X Q c1 c2 c3 F hS;unfold ah at hW⊢
 go_enter func26,ntmps26
 go_wp2_with fail
 refine(HC.o _ (HA.o.below j.o) (HB.o.below j.o)).mono ?_;rintro e w1 ⟨⟨v1,rfl,G⟩,E⟩;obtain⟨r0,r1,r2,rfl,hr⟩:=G.rcv;obtain⟨R,D,L⟩:=η3 hr (C.o.to E) (ae j.o E (ψ Y.o));obtain⟨⟨z0,z1,z2,z3⟩,f0,f1,f2,f3⟩:=D.o.p0;obtain⟨⟨z4,z5,z6,z7⟩,f4,f5,f6,f7⟩:=D.o.p1;obtain⟨⟨z8,z9,an,ao⟩,f8,f9,af,ag⟩:=D.o.p2;clear G hr E x0 x1 x2 x3 x4 x5 x6 x7 x8 x9 aa ab y0 y1 y2 y3 y4 y5 y6 y7 y8 y9 ac ad;go_wp2;exact aL results26 (w.heap.size+2) (D.o.s12 r0 r1 r2) _ rfl underlying57 rfl aP rfl
  ⟨⟨_,rfl,R.o.put12 D.o _ _ _⟩,bh L.o I _ _ _⟩
theorem rA(va vb:Value)(a b:Q3)(k l:Nat)(w:World)(ha:aA w va a)(hb:aA w vb b)(U:BdV k a)(X:BdV l b)(Q:k+l<1000000):
 Calls prog 108 #[va,vb] w fun e w'=>fI w' e ⟨a.x-b.x,a.y-b.y,a.z-b.z⟩/\Bl w w':=by
 have hc:=fun w' u A=>mO 154 #[] (· - ·) a b va vb w' u A entersSub
  (fun w' _ H J u A=>ju H J a.x b.x k l w' u A U.1 X.1 Q)
  (fun w' _ H J u A=>ju H J a.y b.y k l w' u A U.2.1 X.2.1 Q)
  (fun w' _ H J u A=>ju H J a.z b.z k l w' u A U.2.2 X.2.2 Q)
 obtain⟨HA,HB⟩:=η2 ha hb;obtain⟨a0,a1,a2,rfl,-⟩:=ha;obtain⟨b0,b1,b2,rfl,-⟩:=hb;have HC:=O hc;obtain⟨W,hW,c1,c2,c3,F,hS⟩:=bX w (ah a0 a1 a2) (ah b0 b1 b2) #[.bool false,.slice none 0 0,.bool false,.slice none 0 0,.bool false,.slice none 0 0,.bool false,.slice none 0 0,.bool false,.slice none 0 0,.bool false,.slice none 0 0] 57 57 57;have C:Hid (Box W (w.heap.size+2) (ah RC.zero RC.zero RC.zero) 57):=c3;obtain⟨j,Y⟩:=η2 F hS;obtain⟨⟨x0,x1,x2,x3⟩,-⟩:=c1.p0;obtain⟨⟨x4,x5,x6,x7⟩,-⟩:=c1.p1;obtain⟨⟨x8,x9,aa,ab⟩,-⟩:=c1.p2;obtain⟨⟨y0,y1,y2,y3⟩,-⟩:=c2.p0;obtain⟨⟨y4,y5,y6,y7⟩,-⟩:=c2.p1;obtain⟨⟨y8,y9,ac,ad⟩,-⟩:=c2.p2;clear hc U X Q c1 c2 c3 F hS;unfold ah at hW⊢
 go_enter func108,ntmps108
 go_wp2_with fail
 refine(HC.o _ (HA.o.below j.o) (HB.o.below j.o)).mono ?_;rintro e w1 ⟨⟨v1,rfl,G⟩,E⟩;obtain⟨r0,r1,r2,rfl,hr⟩:=G.rcv;obtain⟨R,D,L⟩:=η3 hr (C.o.to E) (ae j.o E (ψ Y.o));obtain⟨⟨z0,z1,z2,z3⟩,f0,f1,f2,f3⟩:=D.o.p0;obtain⟨⟨z4,z5,z6,z7⟩,f4,f5,f6,f7⟩:=D.o.p1;obtain⟨⟨z8,z9,an,ao⟩,f8,f9,af,ag⟩:=D.o.p2;clear G hr E x0 x1 x2 x3 x4 x5 x6 x7 x8 x9 aa ab y0 y1 y2 y3 y4 y5 y6 y7 y8 y9 ac ad;go_wp2;exact aL results108 (w.heap.size+2) (D.o.s12 r0 r1 r2) _ rfl underlying57 rfl aP rfl
  ⟨⟨_,rfl,R.o.put12 D.o _ _ _⟩,bh L.o I _ _ _⟩
theorem l9(g:Nat)(t:TypeId)(r:RC)(X uy:Value)(x y q:Rat)(k l:Nat)(w:World)(Q:Box w g #[.bool r.s,.slice r.a r.n r.c,.bool r.t,.slice r.b r.m r.d] t)(hq:aj w r.agg q)(U:aj w X x)(hy:aj w uy y)(hk:Bd k q)(hl:Bd l x)(Y:k+l<1000000):
 Calls prog 75 (#[X,uy]++#[.pointer (some ⟨g,0,none⟩)]) w fun e w'=>dO w' e (q*x)/\Bl w w':=by
 have hc:=fun w' h2 h3=>dS r.agg X q x k l w' h2 h3 hk hl Y
 obtain⟨HX,HQ⟩:=η2 U hq;obtain⟨j,rfl,-⟩:=U.rcv;obtain⟨u,rfl,-⟩:=hy.rcv;have HC:=O hc;obtain⟨W,hW,c1,c2,c3,F,hS⟩:=bX w #[.bool j.s,.slice j.a j.n j.c,.bool j.t,.slice j.b j.m j.d] #[.bool u.s,.slice u.a u.n u.c,.bool u.t,.slice u.b u.m u.d] #[.bool false,.slice none 0 0,.bool false,.slice none 0 0] 55 55 55;obtain⟨C,E,J⟩:=η3 c3 F hS;obtain⟨x0,x1,x2,x3,-⟩:=c1.four;obtain⟨y0,y1,y2,y3,-⟩:=(Q.to F).four;clear hc U hy hq hk hl Y Q c1 c2 c3 F hS
 go_enter func75,ntmps75
 go_wp2_with fail
 refine(HC.o _ (HQ.o.below E.o) (HX.o.below E.o)).mono ?_;rintro e w1 ⟨⟨v1,rfl,H⟩,G⟩;obtain⟨A,rfl,hr⟩:=H.rcv;obtain⟨R,D,L⟩:=η3 hr (C.o.to G) (ae E.o G (ψ J.o));obtain⟨z0,z1,z2,z3,z4⟩:=D.o.four;clear H hr G x0 x1 x2 x3 y0 y1 y2 y3;go_wp2;exact aL results75 (w.heap.size+2) (D.o.set4 (.bool A.s) (.slice A.a A.n A.c) (.bool A.t) (.slice A.b A.m A.d)) _ rfl underlying55 rfl aY rfl
  ⟨⟨_,rfl,R.o.store4 D.o _ _ _ _⟩,aR L.o I _ _ _ _⟩
theorem ui:∀args w,(callFunc 75 args).run prog w=.ok (.enter 75 args) w:=
 enters_of func75 Z rfl
theorem eA(va vk:Value)(a:Q3)(q:Rat)(k l:Nat)(w:World)(ha:aA w va a)(hq:aj w vk q)(X:Bd k q)(Y:BdV l a)(U:k+l<1000000):
 Calls prog 27 #[va,vk] w fun e w'=>fI w' e ⟨q*a.x,q*a.y,q*a.z⟩/\Bl w w':=by
 obtain⟨HA,HQ⟩:=η2 ha hq;obtain⟨a0,a1,a2,rfl,-⟩:=ha;obtain⟨r,rfl,u⟩:=hq.rcv;obtain⟨W,hW,c1,c2,c3,j,hS⟩:=bX w (ah a0 a1 a2) #[.bool r.s,.slice r.a r.n r.c,.bool r.t,.slice r.b r.m r.d] #[.bool false,.slice none 0 0,.bool false,.slice none 0 0,.bool false,.slice none 0 0,.bool false,.slice none 0 0,.bool false,.slice none 0 0,.bool false,.slice none 0 0] 57 55 57;have hc:=mO 75 #[.pointer (some ⟨w.heap.size+1,0,none⟩)] (fun x _=>q*x) a a (.agg (ah a0 a1 a2)) (.agg (ah a0 a1 a2)) W (HA.o.below j) (HA.o.below j) ui
  (fun w' A J Q F G=>l9 _ 55 r J Q a.x a.x q k l w' (c2.below A I) ((u.below j).below A) F G X Y.1 U)
  (fun w' A J Q F G=>l9 _ 55 r J Q a.y a.y q k l w' (c2.below A I) ((u.below j).below A) F G X Y.2.1 U)
  (fun w' A J Q F G=>l9 _ 55 r J Q a.z a.z q k l w' (c2.below A I) ((u.below j).below A) F G X Y.2.2 U)
 have HC:=O hc;have C:Hid (Box W (w.heap.size+2) (ah RC.zero RC.zero RC.zero) 57):=c3;obtain⟨aa,ab⟩:=η2 j hS;obtain⟨⟨x0,x1,x2,x3⟩,-⟩:=c1.p0;obtain⟨⟨x4,x5,x6,x7⟩,-⟩:=c1.p1;obtain⟨⟨x8,x9,ac,ad⟩,-⟩:=c1.p2;clear hc X Y U hq u c1 c2 c3 j hS;unfold ah at hW⊢
 go_enter func27,ntmps27
 go_wp2_with fail
 refine HC.o.mono ?_;rintro e w1 ⟨⟨v1,rfl,H⟩,E⟩;obtain⟨r0,r1,r2,rfl,hr⟩:=H.rcv;obtain⟨R,D,L⟩:=η3 hr (C.o.to E) (ae aa.o E (ψ ab.o));obtain⟨⟨z0,z1,z2,z3⟩,f0,f1,f2,f3⟩:=D.o.p0;obtain⟨⟨z4,z5,z6,z7⟩,f4,f5,f6,f7⟩:=D.o.p1;obtain⟨⟨z8,z9,an,ao⟩,f8,f9,af,ag⟩:=D.o.p2;clear H hr E x0 x1 x2 x3 x4 x5 x6 x7 x8 x9 ac ad;go_wp2;exact aL results27 (w.heap.size+2) (D.o.s12 r0 r1 r2) _ rfl underlying57 rfl aP rfl
  ⟨⟨_,rfl,R.o.put12 D.o _ _ _⟩,bh L.o I _ _ _⟩
def aX(a b:Q3):Rat:=a.x*b.x+a.y*b.y+a.z*b.z
def Q3.at(a:Q3):Nat->Rat
 | 0=>a.x
 | 1=>a.y
 | _=>a.z
def qmul(a b:Q3):Q3:=⟨a.x*b.x,a.y*b.y,a.z*b.z⟩
theorem psum3(a b:Q3):psum (qmul a b).at 3=aX a b:=by
 show 0+a.x*b.x+a.y*b.y+a.z*b.z=_;rw[Rat.zero_add];rfl
theorem Bd.dot{k l:Nat}{a b:Q3}(ha:BdV k a)(hb:BdV l b):Bd (3*(k+l+1)+1) (aX a b):=by
 rw[<-psum3];refine Bd.psum fun i hi=>?_
 match i with
 | 0=>exact ha.1.mul hb.1
 | 1=>exact ha.2.1.mul hb.2.1
 | 2=>exact ha.2.2.mul hb.2.2
theorem rats3{w:World}{g:Nat}{j u A:RC}{t:TypeId}{a:Q3}(h:Box w g (ah j u A) t)(G:aA w (.agg (ah j u A)) a):Rats w (.some ⟨g,0,.none⟩) 3 3 a.at:=by
 obtain⟨s0,s1,s2,C,h0,E,F⟩:=G;have e:j.agg=s0.agg/\u.agg=s1.agg/\A.agg=s2.agg:=by
  unfold ah at C;simp only[Value.agg.injEq,Array.mk.injEq,List.cons.injEq,Value.bool.injEq,Value.slice.injEq]at C;unfold RC.agg;simp only[Value.agg.injEq,Array.mk.injEq,List.cons.injEq,Value.bool.injEq,Value.slice.injEq,and_true];simp only[C,and_self]
 rw[<-e.1]at h0;rw[<-e.2.1]at E;rw[<-e.2.2]at F;refine⟨Nat.le_refl _,(fun h=>by cases h),fun x H=>?_⟩;cases H;refine⟨rfl,h.lt,fun i hi=>?_⟩
 match i with
 | 0=>exact⟨j,h.p0.1,h0⟩
 | 1=>exact⟨u,h.p1.1,E⟩
 | 2=>exact⟨A,h.p2.1,F⟩
theorem iG(va vb:Value)(a b:Q3)(k l:Nat)(w:World)(ha:aA w va a)(hb:aA w vb b)(J:BdV k a)(Q:BdV l b)(h1:k+l<200000):
 Calls prog 65 #[va,vb] w fun e w'=>dO w' e (aX a b)/\Bl w w':=by
 have hc:=fun w' u F=>mO 31 #[] (· * ·) a b va vb w' u F entersMul
  (fun w' _ ux uy u F=>dS ux uy a.x b.x k l w' u F J.1 Q.1 I)
  (fun w' _ ux uy u F=>dS ux uy a.y b.y k l w' u F J.2.1 Q.2.1 I)
  (fun w' _ ux uy u F=>dS ux uy a.z b.z k l w' u F J.2.2 Q.2.2 I)
 have U:=fun g w' u=>Sum_any (some ⟨g,0,none⟩) 3 3 (qmul a b).at (k+l) w' u (fun i hi=>by
  match i with
  | 0=>exact J.1.mul Q.1
  | 1=>exact J.2.1.mul Q.2.1
  | 2=>exact J.2.2.mul Q.2.2) I
 rw[psum3]at U;obtain⟨HA,HB,ac⟩:=η3 ha hb U;obtain⟨a0,a1,a2,rfl,-⟩:=ha;obtain⟨b0,b1,b2,rfl,-⟩:=hb;have HC:=O hc;obtain⟨W,hW,c1,c2,c3,X,hS⟩:=bX w (ah a0 a1 a2) (ah b0 b1 b2) #[.bool false,.slice none 0 0,.bool false,.slice none 0 0] 57 57 55;obtain⟨C,A,ad⟩:=η3 c3 X hS;obtain⟨⟨x0,x1,x2,x3⟩,-⟩:=c1.p0;obtain⟨⟨x4,x5,x6,x7⟩,-⟩:=c1.p1;obtain⟨⟨x8,x9,af,ag⟩,-⟩:=c1.p2;obtain⟨⟨y0,y1,y2,y3⟩,-⟩:=c2.p0;obtain⟨⟨y4,y5,y6,y7⟩,-⟩:=c2.p1;obtain⟨⟨y8,y9,an,ao⟩,-⟩:=c2.p2;clear hc U J Q h1 c1 c2 c3 X hS;unfold ah at hW⊢
 go_enter func65,ntmps65
 go_wp2_with fail
 refine(HC.o _ (HA.o.below A.o) (HB.o.below A.o)).mono ?_;rintro e w1 ⟨⟨v1,rfl,aa⟩,G⟩;obtain⟨r0,r1,r2,rfl,hr⟩:=aa.rcv;obtain⟨R,D,L⟩:=η3 hr (C.o.to G) (ae A.o G (ψ ad.o));have hn:=Box.new w1 (ah r0 r1 r2) 57 _ rfl;have Y:=(Below.refl w1.heap.size w1).alloc ρ (.cells (ah r0 r1 r2) 57);obtain⟨HN,j⟩:=η2 hn Y;clear aa hr G hn Y x0 x1 x2 x3 x4 x5 x6 x7 x8 x9 af ag y0 y1 y2 y3 y4 y5 y6 y7 y8 y9 an ao;unfold ah at HN j
 go_wp2_with fail
 refine(ac.o _ _ (rats3 HN.o (R.o.below j.o))).mono ?_;rintro e w2 ⟨⟨v2,rfl,ab⟩,H⟩;obtain⟨s,rfl,U⟩:=ab.rcv;have S:=O U;have hE:=(D.o.to j.o).below H (by have:=D.o.lt;have:=j.o.size;omega);have E:=O hE;have L2:=O (ae (ae L.o j.o (ψ L.o.size)) H (by have:=L.o.size;have:=j.o.size;omega));obtain⟨z0,z1,z2,z3,z4⟩:=hE.four;clear ab U H hE;go_wp2;exact aL results65 (w.heap.size+2) (E.o.set4 (.bool s.s) (.slice s.a s.n s.c) (.bool s.t) (.slice s.b s.m s.d)) _ rfl underlying55 rfl aY rfl
  ⟨⟨_,rfl,S.o.store4 E.o _ _ _ _⟩,aR L2.o I _ _ _ _⟩
end Go.Proofs.Υ
