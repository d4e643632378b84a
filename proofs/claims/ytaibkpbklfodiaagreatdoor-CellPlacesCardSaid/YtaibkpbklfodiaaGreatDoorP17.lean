/- Package rational: slices of rationals, Sum. Package rational: Make. Package vector: what its values are in a world; Of, each. Package vector: each. Printed by gen/vec2.py. Package vector: Add, Sub, Neg, Scale. Printed by gen/vec3.py. Package vector: Dot. Printed by gen/vec4.py. -/
import Derived.Test.YtaibkpbklfodiaaGreatDoorP10
import Derived.Test.YtaibkpbklfodiaaGreatDoorP4
import Derived.Test.YtaibkpbklfodiaaGreatDoorP1
set_option linter.all false
set_option maxHeartbeats 100000000
section
namespace Dowel
open Go Go.RowKit
structure RC where
 s:Bool
 a:Option Addr
 n:Nat
 c:Nat
 t:Bool
 b:Option Addr
 m:Nat
 d:Nat
abbrev Λ(w:World)(b o:Nat)(r0 r1 r2:RC):Prop:=w.cell? ⟨b,o,none⟩=some (.bool r0.s)∧w.cell? ⟨b,o+1,none⟩=some (.slice r0.a r0.n r0.c)∧w.cell? ⟨b,o+2,none⟩=some (.bool r0.t)∧w.cell? ⟨b,o+3,none⟩=some (.slice r0.b r0.m r0.d)∧w.cell? ⟨b,o+4,none⟩=some (.bool r1.s)∧w.cell? ⟨b,o+5,none⟩=some (.slice r1.a r1.n r1.c)∧w.cell? ⟨b,o+6,none⟩=some (.bool r1.t)∧w.cell? ⟨b,o+7,none⟩=some (.slice r1.b r1.m r1.d)∧w.cell? ⟨b,o+8,none⟩=some (.bool r2.s)∧w.cell? ⟨b,o+9,none⟩=some (.slice r2.a r2.n r2.c)∧w.cell? ⟨b,o+10,none⟩=some (.bool r2.t)∧w.cell? ⟨b,o+11,none⟩=some (.slice r2.b r2.m r2.d)
def RC.agg (r:RC):Value:=.agg #[.bool r.s,.slice r.a r.n r.c,.bool r.t,.slice r.b r.m r.d]
def RC.zero:RC:=⟨false,none,0,0,false,none,0,0⟩
theorem am.rc {w:World} {v:Value} {q:Rat} (h:am w v q):∃ r:RC,v=r.agg∧am w r.agg q:=by
 obtain ⟨s1,a1,n1,c1,s2,a2,n2,c2,d,rfl,h⟩:=h;exact ⟨⟨s1,a1,n1,c1,s2,a2,n2,c2⟩,rfl,s1,a1,n1,c1,s2,a2,n2,c2,d,rfl,h⟩
theorem am.rcv {w:World} {v:Value} {q:Rat} (h:am w v q):∃ r:RC,v=.agg #[.bool r.s,.slice r.a r.n r.c,.bool r.t,.slice r.b r.m r.d]∧am w r.agg q:=h.rc
theorem am.zero (w:World):am w RC.zero.agg 0:=jj (iq w)
def RCat (w:World) (b off:Nat) (r:RC):Prop:=
 w.cell? ⟨b,off,.none⟩=.some (.bool r.s)∧w.cell? ⟨b,off+1,.none⟩=.some (.slice r.a r.n r.c)∧w.cell? ⟨b,off+2,.none⟩=.some (.bool r.t)∧w.cell? ⟨b,off+3,.none⟩=.some (.slice r.b r.m r.d)
theorem RCat.below {w w':World} {n b off:Nat} {r:RC} (h:RCat w b off r) (hb:Below n w w') (hn:b<n):RCat w' b off r:=
 ⟨keepC h.1 hb hn,keepC h.2.1 hb hn,keepC h.2.2.1 hb hn,keepC h.2.2.2 hb hn⟩
structure Rats (w:World) (a:Option Addr) (n cap:Nat) (q:Nat→Rat):Prop where
 le:n≤cap
 nil:a=none→cap=0
 at_:∀ x,a=some x→x.spot=none∧x.block<w.heap.size∧∀ i,i<n→∃ r,RCat w x.block (x.off+i*4) r∧am w r.agg (q i)
theorem Rats.cells {w:World} {n cap:Nat} {a:Option Addr} {q:Nat→Rat} (h:Rats w a n cap q) (hn:0<n) :
  ∃ b off,a=some ⟨b,off,.none⟩∧b<w.heap.size∧n≤cap∧∀ i,i<n→∃ r,RCat w b (off+i*4) r∧am w r.agg (q i):=by
 cases a with
 | none=>have:=h.nil rfl;have:=h.le;omega
 | some x =>
  obtain ⟨h1,h2,h3⟩:=h.at_ x rfl;obtain ⟨b,off,s⟩:=x;simp only at h1;subst h1;exact ⟨b,off,rfl,h2,h.le,h3⟩
def psum (q:Nat→Rat):Nat→Rat
 | 0=>0
 | n+1=>psum q n+q n
theorem Bd.psum {q:Nat→Rat} {k n:Nat} (h:∀ i,i<n→Bd k (q i)):Bd (n*(k+1)+1) (psum q n):=by
 induction n with
 | zero=>rw [Nat.zero_mul];exact Bd.zero
 | succ n ih =>
  have:=(ih (fun i hi=>h i ω)).add (h n ω);rw [show (n+1)*(k+1)+1=n*(k+1)+1+k+1 by rw [Nat.add_mul];omega];exact this
end Dowel
namespace Go.Proofs.Υ
open Go.RowKit Dowel
theorem Sum_any (a:Option Addr) (n cap:Nat) (q:Nat→Rat) (k:Nat) (w:World) (hQ:Rats w a n cap q) (hk:∀ i,i<n→Bd k (q i)) (hn:n*(k+1)+1+k<1000000) :
  Calls Tryz.prog 94 #[.slice a n cap] w fun e w'=>dJ w' e (psum q n)∧Below w.heap.size w w':=by
 have HQ:=η hQ;have HK:=η hk;have HN:=η hn;obtain ⟨W,hW,b1,b2,hB,hS⟩:=da w #[.bool false,.slice none 0 0,.bool false,.slice none 0 0] #[.bool false,.slice none 0 0,.bool false,.slice none 0 0] 56 56;have B1:=η b1;have B2:=η b2;have HBL:=η hB;have HSZ:=η hS;have hn6:n≤1000000:=by have:=Nat.le_mul_of_pos_right n (show 0<k+1 by omega);omega
 clear hQ hk b1 b2 hB hS hn
 go_enter Tryz.func94,Tryz.ntmps94
 go_wp2_with fail
 go_loopw [8] (fun iv wr=>∃ j r,j≤n∧iv=.int .i64 (j:Nat)∧Hid (Box wr (w.heap.size+1) #[.bool r.s,.slice r.a r.n r.c,.bool r.t,.slice r.b r.m r.d] 56)∧Hid (am wr (RC.agg r) (psum q j))∧Hid (Box wr w.heap.size #[.bool false,.slice none 0 0,.bool false,.slice none 0 0] 56)∧Hid (Below w.heap.size w wr)) (fun iv _=>n - (intOf iv).toNat)
 case atStart=>exact ⟨0,RC.zero,Nat.zero_le _,rfl,B2.out,am.zero _,B1.out,HBL.out⟩
 case round =>
  obtain ⟨j,r,hj,rfl,HBR,HIR,HB1,HR⟩:=hrel;by_cases h0:j=n
  ·subst h0
   have hn:¬ (j:Int)<(j:Int):=ω;obtain ⟨x0,x1,x2,x3,x4⟩:=HBR.out.four;obtain ⟨y0,y1,y2,y3,y4⟩:=HB1.out.four;go_wp2;exact aS Tryz.results94 w.heap.size (HB1.out.set4 (.bool r.s) (.slice r.a r.n r.c) (.bool r.t) (.slice r.b r.m r.d)) _ rfl Tryz.underlying56 rfl bL rfl
    ⟨⟨_,rfl,HIR.out.store4 HB1.out _ _ _ _⟩,aU HR.out ρ _ _ _ _⟩
  ·have hjn:j<n:=ω
   obtain ⟨b,off,rfl,hb,hc,hcc⟩:=HQ.out.cells ω;obtain ⟨r0,hrc,hr0⟩:=hcc j hjn;have hrc':=hrc.below HR.out hb;have H0:=η (hr0.below HR.out);obtain ⟨c0,c1,c2,c3⟩:=hrc';have hlt:(j:Int)<(n:Int):=ω;have hgl:b≠w.heap.size+1:=ω;have hge:w.heap.size+1<wr.heap.size:=HBR.out.lt;have HJ:=η hjn;have hbk:Bd (j*(k+1)+1) (psum q j):=Bd.psum (fun i hi=>HK.out i ω);have HBK:=η hbk;have hBn:=HBR.out.old (.cells #[.bool r0.s,.slice r0.a r0.n r0.c,.bool r0.t,.slice r0.b r0.m r0.d] 56);have HBN:=η hBn;obtain ⟨y0,y1,y2,y3,y4⟩:=hBn.four;have hcl:j*(k+1)+1+k<1000000:=by
    have h1:=HN.out;have h2:=Nat.mul_le_mul_right (k+1) hj;omega
   have HCL:=η hcl;clear hcc hrc hr0 hbk hBn hcl h0
   go_wp2_with fail
   refine (eU r.agg r0.agg (psum q j) (q j) (j*(k+1)+1) k _ (HIR.out.below (β.alloc ρ _)) (H0.out.below (β.alloc ρ _)) HBK.out (HK.out j HJ.out) HCL.out).mono ?_;rintro e w1 ⟨⟨v1,rfl,hv1⟩,hb1⟩;obtain ⟨r1,rfl,hr1⟩:=hv1.rcv;have hb4:=HBN.out.below hb1 HBN.out.lt;obtain ⟨z0,z1,z2,z3,z4⟩:=hb4.four;have H1:=η hr1;have HB4:=η hb4;have hb5:=(HB1.out.old (.cells #[.bool r0.s,.slice r0.a r0.n r0.c,.bool r0.t,.slice r0.b r0.m r0.d] 56)).below hb1 (HB1.out.old _).lt;have HB5:=η hb5;have hR5:Below w.heap.size w w1:=ae (HR.out.alloc (by have:=HR.out.size;exact this) _) hb1 (by have:=HR.out.size;have:=HBN.out.lt;omega);have HR5:=η hR5;clear hv1 hr1 hb1 hb4 hb5 hR5 y0 y1 y2 y3 y4;go_wp2;go_round
   case rel=>exact ⟨j+1,r1,by have:=HJ.out;omega,rfl,HB4.out.set4 _ _ _ _,H1.out.store4 HB4.out _ _ _ _,HB5.out.other4 ω _ _ _ _,aU HR5.out ω _ _ _ _⟩
   case measure=>show n - ((j:Int)+1).toNat<n - ((j:Int)).toNat;have:=HJ.out;omega
end Go.Proofs.Υ
end

section
namespace Go.Proofs.Υ
open Go.RowKit Dowel
theorem Make_any (va vb:Value) (x y:Int) (w:World) (ha:aN w va x) (hb:aN w vb y) (sx:Small x) (sy:Small y) (hy:y≠0) :
  Calls Tryz.prog 92 #[va,vb] w fun e w'=>kB w' e (Rat.divInt x y)∧Below w.heap.size w w':=by
 have I1:=η ha;have I2:=η hb;have SX:=η sx;have SY:=η sy;have HY:=η hy;obtain ⟨s1,a1,n1,c1,d1,rfl,-⟩:=ha;obtain ⟨s2,a2,n2,c2,d2,rfl,-⟩:=hb;obtain ⟨c,hc⟩:∃ c,dl y 0=c:=⟨_,rfl⟩;have hcb:(c == 0)=false:=by rw [beq_eq_false_iff_ne,← hc];intro h;exact hy (pY.1 h)
 have HCC:=η hc;obtain ⟨W,hW,b1,b2,b3,hB,hS⟩:=cW w #[.bool s1,.slice a1 n1 c1] #[.bool s2,.slice a2 n2 c2] #[.bool false,.slice none 0 0,.bool false,.slice none 0 0] 54 54 56;have B1:=η b1;have B2:=η b2;have B3:=η b3;have HBL:=η hB;have HSZ:=η hS;obtain ⟨y0,y1,y2,y3⟩:=b2.two;clear sx sy hy hc b1 b2 b3 hB hS
 go_enter Tryz.func92,Tryz.ntmps92
 go_wp2_with fail
 refine (eQ _ y _ (I2.out.below HBL.out) SY.out).mono ?_;rw [HCC.out];rintro e w0 ⟨rfl,hb0⟩;have L0:=η hb0;obtain ⟨z0,z1,z2,z3⟩:=(B1.out.below hb0 (ψ HSZ.out)).two;obtain ⟨u0,u1,u2,u3⟩:=(B2.out.below hb0 (ψ HSZ.out)).two;clear hb0 y0 y1 y2 y3
 go_wp2_with fail
 refine (eF _ _ x y _ (I1.out.below (ae HBL.out L0.out (ψ HSZ.out))) (I2.out.below (ae HBL.out L0.out (ψ HSZ.out))) SX.out SY.out HY.out).mono ?_;rintro e w1 ⟨⟨v1,rfl,hv1⟩,hb1⟩;have V1:=η hv1;have L1:Hid (Below W.heap.size W w1):=ae L0.out hb1 ρ;obtain ⟨s5,a5,n5,c5,s6,a6,n6,c6,d5,rfl,-⟩:=hv1;have b4:=B3.out.below L1.out (ψ HSZ.out);have B4:=η b4;obtain ⟨t0,t1,t2,t3,t4⟩:=b4.four;clear hb1 b4 z0 z1 z2 z3 u0 u1 u2 u3;go_wp2;exact bP Tryz.results92 (w.heap.size+2) (B4.out.set4 (.bool s5) (.slice a5 n5 c5) (.bool s6) (.slice a6 n6 c6)) _ rfl Tryz.underlying56 rfl bL rfl
  ⟨⟨_,rfl,V1.out.store4 B4.out _ _ _ _⟩,aU (ae HBL.out L1.out (ψ HSZ.out)) ω _ _ _ _⟩
end Go.Proofs.Υ
end

section
namespace Dowel
open Go Go.RowKit
structure Q3 where
 x:Rat
 y:Rat
 z:Rat
def ah (r0 r1 r2:RC):Array Value:=
 #[.bool r0.s,.slice r0.a r0.n r0.c,.bool r0.t,.slice r0.b r0.m r0.d,.bool r1.s,.slice r1.a r1.n r1.c,.bool r1.t,.slice r1.b r1.m r1.d,.bool r2.s,.slice r2.a r2.n r2.c,.bool r2.t,.slice r2.b r2.m r2.d]
theorem ol:ah RC.zero RC.zero RC.zero=#[.bool false,.slice none 0 0,.bool false,.slice none 0 0,.bool false,.slice none 0 0,.bool false,.slice none 0 0,.bool false,.slice none 0 0,.bool false,.slice none 0 0]:=rfl
def aA (w:World) (v:Value) (q:Q3):Prop:=∃ r0 r1 r2:RC,v=.agg (ah r0 r1 r2)∧am w r0.agg q.x∧am w r1.agg q.y∧am w r2.agg q.z
theorem aA.below {w w':World} {v:Value} {q:Q3} (h:aA w v q) (hb:Below w.heap.size w w'):aA w' v q:=by
 obtain ⟨r0,r1,r2,h1,h2,h3,h4⟩:=h;exact ⟨r0,r1,r2,h1,h2.below hb,h3.below hb,h4.below hb⟩
def gV (w:World) (e:Ending) (q:Q3):Prop:=∃ v,e=.returned v∧aA w v q
def At4 (w:World) (g o:Nat) (r:RC):Prop:=
 (w.cell? ⟨g,o,.none⟩=.some (.bool r.s)∧w.cell? ⟨g,o+1,.none⟩=.some (.slice r.a r.n r.c)∧w.cell? ⟨g,o+2,.none⟩=.some (.bool r.t)∧w.cell? ⟨g,o+3,.none⟩=.some (.slice r.b r.m r.d)) ∧
 w.frozen? ⟨g,o,.none⟩=false∧w.frozen? ⟨g,o+1,.none⟩=false∧w.frozen? ⟨g,o+2,.none⟩=false∧w.frozen? ⟨g,o+3,.none⟩=false
theorem Box.p0 {w:World} {g:Nat} {r0 r1 r2:RC} {t:TypeId} (h:Box w g (ah r0 r1 r2) t):At4 w g 0 r0:=
 ⟨⟨(h.cell 0).trans rfl,(h.cell 1).trans rfl,(h.cell 2).trans rfl,(h.cell 3).trans rfl⟩,h.free 0,h.free 1,h.free 2,h.free 3⟩
theorem Box.p1 {w:World} {g:Nat} {r0 r1 r2:RC} {t:TypeId} (h:Box w g (ah r0 r1 r2) t):At4 w g 4 r1:=
 ⟨⟨(h.cell 4).trans rfl,(h.cell 5).trans rfl,(h.cell 6).trans rfl,(h.cell 7).trans rfl⟩,h.free 4,h.free 5,h.free 6,h.free 7⟩
theorem Box.p2 {w:World} {g:Nat} {r0 r1 r2:RC} {t:TypeId} (h:Box w g (ah r0 r1 r2) t):At4 w g 8 r2:=
 ⟨⟨(h.cell 8).trans rfl,(h.cell 9).trans rfl,(h.cell 10).trans rfl,(h.cell 11).trans rfl⟩,h.free 8,h.free 9,h.free 10,h.free 11⟩
def put4 (w:World) (g o:Nat) (r:RC):World:=
 (((w.setCell ⟨g,o,.none⟩ (.bool r.s)).setCell ⟨g,o+1,.none⟩ (.slice r.a r.n r.c)).setCell ⟨g,o+2,.none⟩ (.bool r.t)).setCell ⟨g,o+3,.none⟩ (.slice r.b r.m r.d)
theorem Box.s0 {w:World} {g:Nat} {r0 r1 r2:RC} {t:TypeId} (h:Box w g (ah r0 r1 r2) t) (r:RC):Box (put4 w g 0 r) g (ah r r1 r2) t:=
 (((h.set 0 (.bool r.s)).set 1 (.slice r.a r.n r.c)).set 2 (.bool r.t)).set 3 (.slice r.b r.m r.d)
theorem Box.s1 {w:World} {g:Nat} {r0 r1 r2:RC} {t:TypeId} (h:Box w g (ah r0 r1 r2) t) (r:RC):Box (put4 w g 4 r) g (ah r0 r r2) t:=
 (((h.set 4 (.bool r.s)).set 5 (.slice r.a r.n r.c)).set 6 (.bool r.t)).set 7 (.slice r.b r.m r.d)
theorem Box.s2 {w:World} {g:Nat} {r0 r1 r2:RC} {t:TypeId} (h:Box w g (ah r0 r1 r2) t) (r:RC):Box (put4 w g 8 r) g (ah r0 r1 r) t:=
 (((h.set 8 (.bool r.s)).set 9 (.slice r.a r.n r.c)).set 10 (.bool r.t)).set 11 (.slice r.b r.m r.d)
theorem aX {w w':World} {n g:Nat} (h:Below n w w') (hg:n≤g) (o:Nat) (r:RC):Below n w (put4 w' g o r):=
 (((h.setCell hg _).setCell hg _).setCell hg _).setCell hg _
theorem cw {w w':World} {n g:Nat} (h:Below n w w') (hg:n≤g) (i j k l:Nat) (x y z u:Value) :
  Below n w ((((w'.setCell ⟨g,i,.none⟩ x).setCell ⟨g,j,.none⟩ y).setCell ⟨g,k,.none⟩ z).setCell ⟨g,l,.none⟩ u):=
 (((h.setCell hg _).setCell hg _).setCell hg _).setCell hg _
theorem Box.oput4 {w:World} {g:Nat} {cs:Array Value} {t:TypeId} (h:Box w g cs t) {g':Nat} (hp:g≠g') (o:Nat) (r:RC):Box (put4 w g' o r) g cs t:=
 (h.other2 hp _ _).other2 hp _ _
theorem aN.put4 {w:World} {v:Value} {z:Int} (h:aN w v z) {g o:Nat} {r:RC} (ha:At4 w g o r) (r':RC):aN (put4 w g o r') v z:=by
 obtain ⟨⟨h0,h1,h2,h3⟩,-⟩:=ha;refine (((h.setCell h0 (fL.bool _) _).setCell ?_ (fL.slice r.a r.n r.c) _).setCell ?_ (fL.bool r.t) _).setCell ?_ (fL.slice r.b r.m r.d) _
 ·rw [World.cell?_setCell_other _ _ _ _ (by intro e;injection e;omega)];exact h1
 ·rw [World.cell?_setCell_other _ _ _ _ (by intro e;injection e;omega),World.cell?_setCell_other _ _ _ _ (by intro e;injection e;omega)];exact h2
 ·rw [World.cell?_setCell_other _ _ _ _ (by intro e;injection e;omega),World.cell?_setCell_other _ _ _ _ (by intro e;injection e;omega),World.cell?_setCell_other _ _ _ _ (by intro e;injection e;omega)];exact h3
theorem am.put4 {w:World} {v:Value} {q:Rat} (h:am w v q) {g o:Nat} {r:RC} (ha:At4 w g o r) (r':RC):am (put4 w g o r') v q:=by
 obtain ⟨s1,a1,n1,c1,s2,a2,n2,c2,d,h1,h2,h3,h4⟩:=h;exact ⟨s1,a1,n1,c1,s2,a2,n2,c2,d,h1,h2.put4 ha _,h3.put4 ha _,h4⟩
theorem aA.put4 {w:World} {v:Value} {q:Q3} (h:aA w v q) {g o:Nat} {r:RC} (ha:At4 w g o r) (r':RC):aA (Dowel.put4 w g o r') v q:=by
 obtain ⟨r0,r1,r2,h1,h2,h3,h4⟩:=h;exact ⟨r0,r1,r2,h1,h2.put4 ha _,h3.put4 ha _,h4.put4 ha _⟩
def put12 (w:World) (g:Nat) (r0 r1 r2:RC):World:=put4 (put4 (put4 w g 0 r0) g 4 r1) g 8 r2
theorem Box.s12 {w:World} {g:Nat} {r0 r1 r2:RC} {t:TypeId} (h:Box w g (ah r0 r1 r2) t) (a b c:RC):Box (put12 w g a b c) g (ah a b c) t:=((h.s0 a).s1 b).s2 c
theorem bw {w w':World} {n g:Nat} (h:Below n w w') (hg:n≤g) (a b c:RC):Below n w (put12 w' g a b c):=aX (aX (aX h hg _ _) hg _ _) hg _ _
theorem am.put12 {w:World} {v:Value} {q:Rat} (h:am w v q) {g:Nat} {r0 r1 r2:RC} {t:TypeId} (hb:Box w g (ah r0 r1 r2) t) (a b c:RC):am (put12 w g a b c) v q:=
 ((h.put4 hb.p0 a).put4 (hb.s0 a).p1 b).put4 ((hb.s0 a).s1 b).p2 c
theorem aA.put12 {w:World} {v:Value} {q:Q3} (h:aA w v q) {g:Nat} {r0 r1 r2:RC} {t:TypeId} (hb:Box w g (ah r0 r1 r2) t) (a b c:RC):aA (Dowel.put12 w g a b c) v q:=
 ((h.put4 hb.p0 a).put4 (hb.s0 a).p1 b).put4 ((hb.s0 a).s1 b).p2 c
end Dowel
namespace Go.Proofs.Υ
open Go.RowKit Dowel
theorem aK:(Tryz.prog.info? 58).map (·.size)=some 12:=by kernel_rfl
set_option maxRecDepth 20000 in
theorem kr (p:V) (w:World) (h:LeV 9007199254740992 p) :
  Calls Tryz.prog 22 #[bX p] w fun e w'=>gV w' e ⟨(p.x:Rat),(p.y:Rat),(p.z:Rat)⟩∧Below w.heap.size w w':=by
 unfold bX;have hf:=eI;have HX:=η (fun w=>hf p.x w (by have:=h.1;unfold Le at this;omega) (by have:=h.1;unfold Le at this;omega));have HY:=η (fun w=>hf p.y w (by have:=h.2.1;unfold Le at this;omega) (by have:=h.2.1;unfold Le at this;omega));have HZ:=η (fun w=>hf p.z w (by have:=h.2.2;unfold Le at this;omega) (by have:=h.2.2;unfold Le at this;omega));clear h hf;obtain ⟨W,hW,b1,b2,b3,hB,hS⟩:=cW w #[.int .i64 p.x,.int .i64 p.y,.int .i64 p.z] (ah RC.zero RC.zero RC.zero) (ah RC.zero RC.zero RC.zero) 46 58 58;have B2:=η b2;have B3:=η b3;have HBL:=η hB;have HSZ:=η hS;rw [ol] at hW;obtain ⟨q0,q1,q2,-⟩:=b1.three;clear b2 b3 b1 hB hS;have i0:∀ w,(Instr.index 46 (.agg #[.int .i64 p.x,.int .i64 p.y,.int .i64 p.z]) (.int .i64 0)).run Tryz.prog w=.ok (.int .i64 p.x) w:=fun _=>by kernel_rfl
 have i1:∀ w,(Instr.index 46 (.agg #[.int .i64 p.x,.int .i64 p.y,.int .i64 p.z]) (.int .i64 1)).run Tryz.prog w=.ok (.int .i64 p.y) w:=fun _=>by kernel_rfl
 have i2:∀ w,(Instr.index 46 (.agg #[.int .i64 p.x,.int .i64 p.y,.int .i64 p.z]) (.int .i64 2)).run Tryz.prog w=.ok (.int .i64 p.z) w:=fun _=>by kernel_rfl
 go_enter Tryz.func22,Tryz.ntmps22
 go_wp2_with fail
 refine aP.loop 4 ?_;refine aP.next (fun K hK=>?_)
 go_wp2_with fail
 refine (HX.out _).mono ?_;rintro e w1 ⟨⟨v1,rfl,hv1⟩,hb1⟩;obtain ⟨r0,rfl,hr0⟩:=hv1.rcv;have L1:=η (ae HBL.out hb1 (ψ HSZ.out));have B21:=η (B2.out.below hb1 B2.out.lt);have B31:=η (B3.out.below hb1 B3.out.lt);obtain ⟨⟨x0,x1,x2,x3⟩,x4,x5,x6,x7⟩:=B31.out.p0;have S0:=η hr0;have M1:=η hb1;clear hv1 hr0 hb1
 go_wp2_with fail
 clear x0 x1 x2 x3 x4 x5 x6 x7;change aP _ _ _ _ _ (put4 w1 (w.heap.size+2) 0 r0);have C21:=η (B21.out.oput4 (g':=w.heap.size+2) ω 0 r0);have C31:=η (B31.out.s0 r0);have T01:=η (S0.out.put4 B31.out.p0 r0);have K1:=η (aX L1.out (Nat.le_add_right _ 2) 0 r0);generalize put4 w1 (w.heap.size+2) 0 r0=W1 at *;refine aP.next (fun K hK=>?_)
 go_wp2_with fail
 refine (HY.out _).mono ?_;rintro e w2 ⟨⟨v2,rfl,hv2⟩,hb2⟩;obtain ⟨r1,rfl,hr1⟩:=hv2.rcv;have L2:=η (ae K1.out hb2 (ψ K1.out.size));have B22:=η (C21.out.below hb2 C21.out.lt);have B32:=η (C31.out.below hb2 C31.out.lt);obtain ⟨⟨x0,x1,x2,x3⟩,x4,x5,x6,x7⟩:=B32.out.p1;have S1:=η hr1;have M2:=η hb2;clear hv2 hr1 hb2
 go_wp2_with fail
 clear x0 x1 x2 x3 x4 x5 x6 x7;change aP _ _ _ _ _ (put4 w2 (w.heap.size+2) 4 r1);have C22:=η (B22.out.oput4 (g':=w.heap.size+2) ω 4 r1);have C32:=η (B32.out.s1 r1);have T12:=η (S1.out.put4 B32.out.p1 r1);have K2:=η (aX L2.out (Nat.le_add_right _ 2) 4 r1);have T02:=η ((T01.out.below M2.out).put4 B32.out.p1 r1);generalize put4 w2 (w.heap.size+2) 4 r1=W2 at *;refine aP.next (fun K hK=>?_)
 go_wp2_with fail
 refine (HZ.out _).mono ?_;rintro e w3 ⟨⟨v3,rfl,hv3⟩,hb3⟩;obtain ⟨r2,rfl,hr2⟩:=hv3.rcv;have L3:=η (ae K2.out hb3 (ψ K2.out.size));have B23:=η (C22.out.below hb3 C22.out.lt);have B33:=η (C32.out.below hb3 C32.out.lt);obtain ⟨⟨x0,x1,x2,x3⟩,x4,x5,x6,x7⟩:=B33.out.p2;have S2:=η hr2;have M3:=η hb3;clear hv3 hr2 hb3
 go_wp2_with fail
 clear x0 x1 x2 x3 x4 x5 x6 x7;change aP _ _ _ _ _ (put4 w3 (w.heap.size+2) 8 r2);have C23:=η (B23.out.oput4 (g':=w.heap.size+2) ω 8 r2);have C33:=η (B33.out.s2 r2);have T23:=η (S2.out.put4 B33.out.p2 r2);have K3:=η (aX L3.out (Nat.le_add_right _ 2) 8 r2);have T03:=η ((T02.out.below M3.out).put4 B33.out.p2 r2);have T13:=η ((T12.out.below M3.out).put4 B33.out.p2 r2);generalize put4 w3 (w.heap.size+2) 8 r2=W3 at *;refine aP.next (fun K hK=>?_);obtain ⟨⟨x0,x1,x2,x3⟩,-⟩:=C33.out.p0;obtain ⟨⟨x4,x5,x6,x7⟩,-⟩:=C33.out.p1;obtain ⟨⟨x8,x9,x10,x11⟩,-⟩:=C33.out.p2;obtain ⟨⟨y0,y1,y2,y3⟩,f0,f1,f2,f3⟩:=C23.out.p0;obtain ⟨⟨y4,y5,y6,y7⟩,f4,f5,f6,f7⟩:=C23.out.p1;obtain ⟨⟨y8,y9,y10,y11⟩,f8,f9,f10,f11⟩:=C23.out.p2;go_wp2;exact aS Tryz.results22 (w.heap.size+1) (C23.out.s12 r0 r1 r2) _ rfl Tryz.underlying58 rfl aK rfl
  ⟨⟨_,rfl,r0,r1,r2,rfl,T03.out.put12 C23.out _ _ _,T13.out.put12 C23.out _ _ _,T23.out.put12 C23.out _ _ _⟩,bw K3.out ω _ _ _⟩
end Go.Proofs.Υ
end

section
namespace Go.Proofs.Υ
open Go.RowKit Dowel
set_option maxRecDepth 20000 in
theorem ke (g:Nat) (cb:Array Value) (F:Rat→Rat→Rat) (a b:Q3) (va vb:Value) (w:World) (ha:aA w va a) (hb:aA w vb b) (eg:∀ args w,(callFunc g args).run Tryz.prog w=.ok (.enter g args) w)
    (hx:∀ w',Below w.heap.size w w'→∀ ux uy,am w' ux a.x→am w' uy b.x→Calls Tryz.prog g (#[ux,uy] ++ cb) w' fun e w''=>dJ w'' e (F a.x b.x)∧Below w'.heap.size w' w'')
    (hy:∀ w',Below w.heap.size w w'→∀ ux uy,am w' ux a.y→am w' uy b.y→Calls Tryz.prog g (#[ux,uy] ++ cb) w' fun e w''=>dJ w'' e (F a.y b.y)∧Below w'.heap.size w' w'')
    (hz:∀ w',Below w.heap.size w w'→∀ ux uy,am w' ux a.z→am w' uy b.z→Calls Tryz.prog g (#[ux,uy] ++ cb) w' fun e w''=>dJ w'' e (F a.z b.z)∧Below w'.heap.size w' w'') :
    Calls Tryz.prog 63 #[va,vb,.func (.func g) #[] cb] w fun e w'=>gV w' e ⟨F a.x b.x,F a.y b.y,F a.z b.z⟩∧Below w.heap.size w w':=by
  have Hx:=η hx;have Hy:=η hy;have Hz:=η hz;obtain ⟨a0,a1,a2,rfl,hax,hay,haz⟩:=ha;obtain ⟨b0,b1,b2,rfl,hbx,hby,hbz⟩:=hb;obtain ⟨W,hW,c1,c2,c3,c4,hB,hS⟩:=lf w (ah a0 a1 a2) (ah b0 b1 b2) #[.bool false,.slice none 0 0,.bool false,.slice none 0 0,.bool false,.slice none 0 0,.bool false,.slice none 0 0,.bool false,.slice none 0 0,.bool false,.slice none 0 0] #[.bool false,.slice none 0 0,.bool false,.slice none 0 0,.bool false,.slice none 0 0,.bool false,.slice none 0 0,.bool false,.slice none 0 0,.bool false,.slice none 0 0] 58 58 58 58;have A:=η c1;have Bb:=η c2;have C:Hid (Box W (w.heap.size+2) (ah RC.zero RC.zero RC.zero) 58):=c3;have D:Hid (Box W (w.heap.size+3) (ah RC.zero RC.zero RC.zero) 58):=c4;have RA0:=η (hax.below hB);have RA1:=η (hay.below hB);have RA2:=η (haz.below hB);have RB0:=η (hbx.below hB);have RB1:=η (hby.below hB);have RB2:=η (hbz.below hB);have HBL:=η hB;have HSZ:=η hS;have G3:Hid (w.heap.size+2≤w.heap.size+1+1+1):=by show _≤_;omega
  clear hax hay haz hbx hby hbz hx hy hz c1 c2 c3 c4 hB hS;unfold ah at hW ⊢
  go_enter Tryz.func63,Tryz.ntmps63
  go_wp2_with fail
  refine aP.loop 4 ?_;refine aP.next (fun K hK=>?_);have KP1:Hid (∀ w',Below (w.heap.size+2) W w'→w'.cell? ⟨w.heap.size,0,none⟩=some (.bool a0.s)∧w'.cell? ⟨w.heap.size,1,none⟩=some (.slice a0.a a0.n a0.c)∧w'.cell? ⟨w.heap.size,2,none⟩=some (.bool a0.t)∧w'.cell? ⟨w.heap.size,3,none⟩=some (.slice a0.b a0.m a0.d)∧w'.cell? ⟨w.heap.size+1,0,none⟩=some (.bool b0.s)∧w'.cell? ⟨w.heap.size+1,1,none⟩=some (.slice b0.a b0.n b0.c)∧w'.cell? ⟨w.heap.size+1,2,none⟩=some (.bool b0.t)∧w'.cell? ⟨w.heap.size+1,3,none⟩=some (.slice b0.b b0.m b0.d)):=fun w' h=>by
    obtain ⟨p0,p1,p2,p3⟩:=(A.out.below h ω).p0.1;obtain ⟨q0,q1,q2,q3⟩:=(Bb.out.below h ω).p0.1;exact ⟨p0,p1,p2,p3,q0,q1,q2,q3⟩
  have L00:Hid (Below W.heap.size W W.drew):=β.drew;have N0:Hid (Below (w.heap.size+2) W W.drew):=β.drew;have hf1:=KP1.out _ β
  go_wp2_with fail
  go_region_held3 (fun w'=>w'.cell? ⟨w.heap.size,0,none⟩=some (.bool a0.s)∧w'.cell? ⟨w.heap.size,1,none⟩=some (.slice a0.a a0.n a0.c)∧w'.cell? ⟨w.heap.size,2,none⟩=some (.bool a0.t)∧w'.cell? ⟨w.heap.size,3,none⟩=some (.slice a0.b a0.m a0.d)∧w'.cell? ⟨w.heap.size+1,0,none⟩=some (.bool b0.s)∧w'.cell? ⟨w.heap.size+1,1,none⟩=some (.slice b0.a b0.n b0.c)∧w'.cell? ⟨w.heap.size+1,2,none⟩=some (.bool b0.t)∧w'.cell? ⟨w.heap.size+1,3,none⟩=some (.slice b0.b b0.m b0.d))
    (first | with_reducible exact (KP1.out _ (cw N1.out G3.out _ _ _ _ _ _ _ _)) | with_reducible exact (KP1.out _ N1.out) | with_reducible exact (KP1.out _ N0.out))
    (first
      | (refine (Hx.out _ (HBL.out.drew) _ _ (RA0.out.below L00.out) (RB0.out.below L00.out)).mono ?_;rintro e w1 ⟨⟨v1,rfl,hv1⟩,hb1⟩
         obtain ⟨r0,rfl,hr0⟩:=hv1.rcv;have M1:Hid (Below W.heap.size W w1):=ae L00.out hb1 ρ;have N1:Hid (Below (w.heap.size+2) W w1):=ae N0.out hb1 (ψ D.out.lt);have S0:=η hr0;obtain ⟨⟨x0,x1,x2,x3⟩,x4,x5,x6,x7⟩:=(D.out.below M1.out D.out.lt).p0;clear hv1 hr0 hb1))
  clear hf1 x0 x1 x2 x3 x4 x5 x6 x7
  go_wp2_with fail
  change aP _ _ _ _ _ (put4 w1 (w.heap.size+3) 0 r0);have E1:=η (D.out.below M1.out D.out.lt);have A1_:=η ((A.out.below M1.out A.out.lt).oput4 (g':=w.heap.size+3) ω 0 r0);have Bb1_:=η ((Bb.out.below M1.out Bb.out.lt).oput4 (g':=w.heap.size+3) ω 0 r0);have C1_:=η ((C.out.below M1.out C.out.lt).oput4 (g':=w.heap.size+3) ω 0 r0);have D1_:=η (E1.out.s0 r0);have T0:=η (S0.out.put4 E1.out.p0 r0);replace RA1:=η ((RA1.out.below M1.out).put4 E1.out.p0 r0);replace RA2:=η ((RA2.out.below M1.out).put4 E1.out.p0 r0);replace RB1:=η ((RB1.out.below M1.out).put4 E1.out.p0 r0);replace RB2:=η ((RB2.out.below M1.out).put4 E1.out.p0 r0);have K1:=η (aX (ae HBL.out M1.out (ψ D.out.lt)) (Nat.le_add_right _ 3) 0 r0);clear KP1 L00 N0 N1 S0;clear M1 E1;generalize put4 w1 (w.heap.size+3) 0 r0=U1 at *;refine aP.next (fun K hK=>?_);have KP2:Hid (∀ w',Below (w.heap.size+2) U1 w'→w'.cell? ⟨w.heap.size,4,none⟩=some (.bool a1.s)∧w'.cell? ⟨w.heap.size,5,none⟩=some (.slice a1.a a1.n a1.c)∧w'.cell? ⟨w.heap.size,6,none⟩=some (.bool a1.t)∧w'.cell? ⟨w.heap.size,7,none⟩=some (.slice a1.b a1.m a1.d)∧w'.cell? ⟨w.heap.size+1,4,none⟩=some (.bool b1.s)∧w'.cell? ⟨w.heap.size+1,5,none⟩=some (.slice b1.a b1.n b1.c)∧w'.cell? ⟨w.heap.size+1,6,none⟩=some (.bool b1.t)∧w'.cell? ⟨w.heap.size+1,7,none⟩=some (.slice b1.b b1.m b1.d)):=fun w' h=>by
    obtain ⟨p0,p1,p2,p3⟩:=(A1_.out.below h ω).p1.1;obtain ⟨q0,q1,q2,q3⟩:=(Bb1_.out.below h ω).p1.1;exact ⟨p0,p1,p2,p3,q0,q1,q2,q3⟩
  have L00:Hid (Below U1.heap.size U1 U1.drew):=β.drew;have N0:Hid (Below (w.heap.size+2) U1 U1.drew):=β.drew;have hf1:=KP2.out _ β
  go_wp2_with fail
  go_region_held3 (fun w'=>w'.cell? ⟨w.heap.size,4,none⟩=some (.bool a1.s)∧w'.cell? ⟨w.heap.size,5,none⟩=some (.slice a1.a a1.n a1.c)∧w'.cell? ⟨w.heap.size,6,none⟩=some (.bool a1.t)∧w'.cell? ⟨w.heap.size,7,none⟩=some (.slice a1.b a1.m a1.d)∧w'.cell? ⟨w.heap.size+1,4,none⟩=some (.bool b1.s)∧w'.cell? ⟨w.heap.size+1,5,none⟩=some (.slice b1.a b1.n b1.c)∧w'.cell? ⟨w.heap.size+1,6,none⟩=some (.bool b1.t)∧w'.cell? ⟨w.heap.size+1,7,none⟩=some (.slice b1.b b1.m b1.d))
    (first | with_reducible exact (KP2.out _ (cw N2.out G3.out _ _ _ _ _ _ _ _)) | with_reducible exact (KP2.out _ N2.out) | with_reducible exact (KP2.out _ N0.out))
    (first
      | (refine (Hy.out _ (K1.out.drew) _ _ (RA1.out.below L00.out) (RB1.out.below L00.out)).mono ?_;rintro e w2 ⟨⟨v2,rfl,hv2⟩,hb2⟩
         obtain ⟨r1,rfl,hr1⟩:=hv2.rcv;have M2:Hid (Below U1.heap.size U1 w2):=ae L00.out hb2 ρ;have N2:Hid (Below (w.heap.size+2) U1 w2):=ae N0.out hb2 (ψ D1_.out.lt);have S1:=η hr1;obtain ⟨⟨x0,x1,x2,x3⟩,x4,x5,x6,x7⟩:=(D1_.out.below M2.out D1_.out.lt).p1;clear hv2 hr1 hb2))
  clear hf1 x0 x1 x2 x3 x4 x5 x6 x7
  go_wp2_with fail
  change aP _ _ _ _ _ (put4 w2 (w.heap.size+3) 4 r1);have E2:=η (D1_.out.below M2.out D1_.out.lt);have A2_:=η ((A1_.out.below M2.out A1_.out.lt).oput4 (g':=w.heap.size+3) ω 4 r1);have Bb2_:=η ((Bb1_.out.below M2.out Bb1_.out.lt).oput4 (g':=w.heap.size+3) ω 4 r1);have C2_:=η ((C1_.out.below M2.out C1_.out.lt).oput4 (g':=w.heap.size+3) ω 4 r1);have D2_:=η (E2.out.s1 r1);have T1:=η (S1.out.put4 E2.out.p1 r1);replace RA2:=η ((RA2.out.below M2.out).put4 E2.out.p1 r1);replace RB2:=η ((RB2.out.below M2.out).put4 E2.out.p1 r1);replace T0:=η ((T0.out.below M2.out).put4 E2.out.p1 r1);have K2:=η (aX (ae K1.out M2.out (ψ D1_.out.lt)) (Nat.le_add_right _ 3) 4 r1);clear KP2 L00 N0 N2 S1;clear M2 E2;generalize put4 w2 (w.heap.size+3) 4 r1=U2 at *;refine aP.next (fun K hK=>?_);have KP3:Hid (∀ w',Below (w.heap.size+2) U2 w'→w'.cell? ⟨w.heap.size,8,none⟩=some (.bool a2.s)∧w'.cell? ⟨w.heap.size,9,none⟩=some (.slice a2.a a2.n a2.c)∧w'.cell? ⟨w.heap.size,10,none⟩=some (.bool a2.t)∧w'.cell? ⟨w.heap.size,11,none⟩=some (.slice a2.b a2.m a2.d)∧w'.cell? ⟨w.heap.size+1,8,none⟩=some (.bool b2.s)∧w'.cell? ⟨w.heap.size+1,9,none⟩=some (.slice b2.a b2.n b2.c)∧w'.cell? ⟨w.heap.size+1,10,none⟩=some (.bool b2.t)∧w'.cell? ⟨w.heap.size+1,11,none⟩=some (.slice b2.b b2.m b2.d)):=fun w' h=>by
    obtain ⟨p0,p1,p2,p3⟩:=(A2_.out.below h ω).p2.1;obtain ⟨q0,q1,q2,q3⟩:=(Bb2_.out.below h ω).p2.1;exact ⟨p0,p1,p2,p3,q0,q1,q2,q3⟩
  have L00:Hid (Below U2.heap.size U2 U2.drew):=β.drew;have N0:Hid (Below (w.heap.size+2) U2 U2.drew):=β.drew;have hf1:=KP3.out _ β
  go_wp2_with fail
  go_region_held3 (fun w'=>w'.cell? ⟨w.heap.size,8,none⟩=some (.bool a2.s)∧w'.cell? ⟨w.heap.size,9,none⟩=some (.slice a2.a a2.n a2.c)∧w'.cell? ⟨w.heap.size,10,none⟩=some (.bool a2.t)∧w'.cell? ⟨w.heap.size,11,none⟩=some (.slice a2.b a2.m a2.d)∧w'.cell? ⟨w.heap.size+1,8,none⟩=some (.bool b2.s)∧w'.cell? ⟨w.heap.size+1,9,none⟩=some (.slice b2.a b2.n b2.c)∧w'.cell? ⟨w.heap.size+1,10,none⟩=some (.bool b2.t)∧w'.cell? ⟨w.heap.size+1,11,none⟩=some (.slice b2.b b2.m b2.d))
    (first | with_reducible exact (KP3.out _ (cw N3.out G3.out _ _ _ _ _ _ _ _)) | with_reducible exact (KP3.out _ N3.out) | with_reducible exact (KP3.out _ N0.out))
    (first
      | (refine (Hz.out _ (K2.out.drew) _ _ (RA2.out.below L00.out) (RB2.out.below L00.out)).mono ?_;rintro e w3 ⟨⟨v3,rfl,hv3⟩,hb3⟩
         obtain ⟨r2,rfl,hr2⟩:=hv3.rcv;have M3:Hid (Below U2.heap.size U2 w3):=ae L00.out hb3 ρ;have N3:Hid (Below (w.heap.size+2) U2 w3):=ae N0.out hb3 (ψ D2_.out.lt);have S2:=η hr2;obtain ⟨⟨x0,x1,x2,x3⟩,x4,x5,x6,x7⟩:=(D2_.out.below M3.out D2_.out.lt).p2;clear hv3 hr2 hb3))
  clear hf1 x0 x1 x2 x3 x4 x5 x6 x7
  go_wp2_with fail
  change aP _ _ _ _ _ (put4 w3 (w.heap.size+3) 8 r2);have E3:=η (D2_.out.below M3.out D2_.out.lt);have A3_:=η ((A2_.out.below M3.out A2_.out.lt).oput4 (g':=w.heap.size+3) ω 8 r2);have Bb3_:=η ((Bb2_.out.below M3.out Bb2_.out.lt).oput4 (g':=w.heap.size+3) ω 8 r2);have C3_:=η ((C2_.out.below M3.out C2_.out.lt).oput4 (g':=w.heap.size+3) ω 8 r2);have D3_:=η (E3.out.s2 r2);have T2:=η (S2.out.put4 E3.out.p2 r2);replace T0:=η ((T0.out.below M3.out).put4 E3.out.p2 r2);replace T1:=η ((T1.out.below M3.out).put4 E3.out.p2 r2);have K3:=η (aX (ae K2.out M3.out (ψ D2_.out.lt)) (Nat.le_add_right _ 3) 8 r2);clear KP3 L00 N0 N3 S2;clear M3 E3;generalize put4 w3 (w.heap.size+3) 8 r2=U3 at *;refine aP.next (fun K hK=>?_);obtain ⟨⟨x0,x1,x2,x3⟩,-⟩:=D3_.out.p0;obtain ⟨⟨x4,x5,x6,x7⟩,-⟩:=D3_.out.p1;obtain ⟨⟨x8,x9,x10,x11⟩,-⟩:=D3_.out.p2;obtain ⟨⟨y0,y1,y2,y3⟩,f0,f1,f2,f3⟩:=C3_.out.p0;obtain ⟨⟨y4,y5,y6,y7⟩,f4,f5,f6,f7⟩:=C3_.out.p1;obtain ⟨⟨y8,y9,y10,y11⟩,f8,f9,f10,f11⟩:=C3_.out.p2;go_wp2;exact aS Tryz.results63 (w.heap.size+2) (C3_.out.s12 r0 r1 r2) _ rfl Tryz.underlying58 rfl aK rfl
    ⟨⟨_,rfl,r0,r1,r2,rfl,T0.out.put12 C3_.out _ _ _,T1.out.put12 C3_.out _ _ _,T2.out.put12 C3_.out _ _ _⟩,bw K3.out ω _ _ _⟩
end Go.Proofs.Υ
end

section
namespace Dowel
open Go Go.RowKit
def BdV (k:Nat) (q:Q3):Prop:=Bd k q.x∧Bd k q.y∧Bd k q.z
theorem aA.rcv {w:World} {v:Value} {q:Q3} (h:aA w v q):∃ r0 r1 r2:RC,v=.agg #[.bool r0.s,.slice r0.a r0.n r0.c,.bool r0.t,.slice r0.b r0.m r0.d,.bool r1.s,.slice r1.a r1.n r1.c,.bool r1.t,.slice r1.b r1.m r1.d,.bool r2.s,.slice r2.a r2.n r2.c,.bool r2.t,.slice r2.b r2.m r2.d]∧aA w (.agg (ah r0 r1 r2)) q:=by
 obtain ⟨r0,r1,r2,rfl,h1,h2,h3⟩:=h;exact ⟨r0,r1,r2,rfl,r0,r1,r2,rfl,h1,h2,h3⟩
theorem aA.zero (w:World):aA w (.agg (ah RC.zero RC.zero RC.zero)) ⟨0,0,0⟩:=⟨_,_,_,rfl,am.zero w,am.zero w,am.zero w⟩
end Dowel
namespace Go.Proofs.Υ
open Go.RowKit Dowel
theorem entersAdd:∀ args w,(callFunc 45 args).run Tryz.prog w=.ok (.enter 45 args) w:=
 enters_of Tryz.func45 κ rfl
theorem entersSub:∀ args w,(callFunc 64 args).run Tryz.prog w=.ok (.enter 64 args) w:=
 enters_of Tryz.func64 κ rfl
theorem entersMul:∀ args w,(callFunc 67 args).run Tryz.prog w=.ok (.enter 67 args) w:=
 enters_of Tryz.func67 κ rfl
set_option maxRecDepth 20000 in
theorem jb (va vb:Value) (a b:Q3) (k l:Nat) (w:World) (ha:aA w va a) (hb:aA w vb b) (hk:BdV k a) (hl:BdV l b) (h1:k+l<1000000) :
  Calls Tryz.prog 24 #[va,vb] w fun e w'=>gV w' e ⟨a.x+b.x,a.y+b.y,a.z+b.z⟩∧Below w.heap.size w w':=by
 have hc:=fun w' h2 h3=>ke 45 #[] (· + ·) a b va vb w' h2 h3 entersAdd
  (fun w' _ ux uy h2 h3=>eU ux uy a.x b.x k l w' h2 h3 hk.1 hl.1 h1)
  (fun w' _ ux uy h2 h3=>eU ux uy a.y b.y k l w' h2 h3 hk.2.1 hl.2.1 h1)
  (fun w' _ ux uy h2 h3=>eU ux uy a.z b.z k l w' h2 h3 hk.2.2 hl.2.2 h1)
 have HA:=η ha;have HB:=η hb;obtain ⟨a0,a1,a2,rfl,-⟩:=ha;obtain ⟨b0,b1,b2,rfl,-⟩:=hb;have HC:=η hc;obtain ⟨W,hW,c1,c2,c3,hBl,hS⟩:=cW w (ah a0 a1 a2) (ah b0 b1 b2) #[.bool false,.slice none 0 0,.bool false,.slice none 0 0,.bool false,.slice none 0 0,.bool false,.slice none 0 0,.bool false,.slice none 0 0,.bool false,.slice none 0 0] 58 58 58;have C:Hid (Box W (w.heap.size+2) (ah RC.zero RC.zero RC.zero) 58):=c3;have HBL:=η hBl;have HSZ:=η hS;obtain ⟨⟨x0,x1,x2,x3⟩,-⟩:=c1.p0;obtain ⟨⟨x4,x5,x6,x7⟩,-⟩:=c1.p1;obtain ⟨⟨x8,x9,x10,x11⟩,-⟩:=c1.p2;obtain ⟨⟨y0,y1,y2,y3⟩,-⟩:=c2.p0;obtain ⟨⟨y4,y5,y6,y7⟩,-⟩:=c2.p1;obtain ⟨⟨y8,y9,y10,y11⟩,-⟩:=c2.p2;clear hc hk hl h1 c1 c2 c3 hBl hS;unfold ah at hW ⊢
 go_enter Tryz.func24,Tryz.ntmps24
 go_wp2_with fail
 refine (HC.out _ (HA.out.below HBL.out) (HB.out.below HBL.out)).mono ?_;rintro e w1 ⟨⟨v1,rfl,hv1⟩,hb1⟩;obtain ⟨r0,r1,r2,rfl,hr⟩:=hv1.rcv;have R:=η hr;have D:=η (C.out.below hb1 C.out.lt);have L:=η (ae HBL.out hb1 (ψ HSZ.out));obtain ⟨⟨z0,z1,z2,z3⟩,f0,f1,f2,f3⟩:=D.out.p0;obtain ⟨⟨z4,z5,z6,z7⟩,f4,f5,f6,f7⟩:=D.out.p1;obtain ⟨⟨z8,z9,z10,z11⟩,f8,f9,f10,f11⟩:=D.out.p2;clear hv1 hr hb1 x0 x1 x2 x3 x4 x5 x6 x7 x8 x9 x10 x11 y0 y1 y2 y3 y4 y5 y6 y7 y8 y9 y10 y11;go_wp2;exact aS Tryz.results24 (w.heap.size+2) (D.out.s12 r0 r1 r2) _ rfl Tryz.underlying58 rfl aK rfl
  ⟨⟨_,rfl,R.out.put12 D.out _ _ _⟩,bw L.out ω _ _ _⟩
set_option maxRecDepth 20000 in
theorem nL (va vb:Value) (a b:Q3) (k l:Nat) (w:World) (ha:aA w va a) (hb:aA w vb b) (hk:BdV k a) (hl:BdV l b) (h1:k+l<1000000) :
  Calls Tryz.prog 23 #[va,vb] w fun e w'=>gV w' e ⟨a.x - b.x,a.y - b.y,a.z - b.z⟩∧Below w.heap.size w w':=by
 have hc:=fun w' h2 h3=>ke 64 #[] (· - ·) a b va vb w' h2 h3 entersSub
  (fun w' _ ux uy h2 h3=>ie ux uy a.x b.x k l w' h2 h3 hk.1 hl.1 h1)
  (fun w' _ ux uy h2 h3=>ie ux uy a.y b.y k l w' h2 h3 hk.2.1 hl.2.1 h1)
  (fun w' _ ux uy h2 h3=>ie ux uy a.z b.z k l w' h2 h3 hk.2.2 hl.2.2 h1)
 have HA:=η ha;have HB:=η hb;obtain ⟨a0,a1,a2,rfl,-⟩:=ha;obtain ⟨b0,b1,b2,rfl,-⟩:=hb;have HC:=η hc;obtain ⟨W,hW,c1,c2,c3,hBl,hS⟩:=cW w (ah a0 a1 a2) (ah b0 b1 b2) #[.bool false,.slice none 0 0,.bool false,.slice none 0 0,.bool false,.slice none 0 0,.bool false,.slice none 0 0,.bool false,.slice none 0 0,.bool false,.slice none 0 0] 58 58 58;have C:Hid (Box W (w.heap.size+2) (ah RC.zero RC.zero RC.zero) 58):=c3;have HBL:=η hBl;have HSZ:=η hS;obtain ⟨⟨x0,x1,x2,x3⟩,-⟩:=c1.p0;obtain ⟨⟨x4,x5,x6,x7⟩,-⟩:=c1.p1;obtain ⟨⟨x8,x9,x10,x11⟩,-⟩:=c1.p2;obtain ⟨⟨y0,y1,y2,y3⟩,-⟩:=c2.p0;obtain ⟨⟨y4,y5,y6,y7⟩,-⟩:=c2.p1;obtain ⟨⟨y8,y9,y10,y11⟩,-⟩:=c2.p2;clear hc hk hl h1 c1 c2 c3 hBl hS;unfold ah at hW ⊢
 go_enter Tryz.func23,Tryz.ntmps23
 go_wp2_with fail
 refine (HC.out _ (HA.out.below HBL.out) (HB.out.below HBL.out)).mono ?_;rintro e w1 ⟨⟨v1,rfl,hv1⟩,hb1⟩;obtain ⟨r0,r1,r2,rfl,hr⟩:=hv1.rcv;have R:=η hr;have D:=η (C.out.below hb1 C.out.lt);have L:=η (ae HBL.out hb1 (ψ HSZ.out));obtain ⟨⟨z0,z1,z2,z3⟩,f0,f1,f2,f3⟩:=D.out.p0;obtain ⟨⟨z4,z5,z6,z7⟩,f4,f5,f6,f7⟩:=D.out.p1;obtain ⟨⟨z8,z9,z10,z11⟩,f8,f9,f10,f11⟩:=D.out.p2;clear hv1 hr hb1 x0 x1 x2 x3 x4 x5 x6 x7 x8 x9 x10 x11 y0 y1 y2 y3 y4 y5 y6 y7 y8 y9 y10 y11;go_wp2;exact aS Tryz.results23 (w.heap.size+2) (D.out.s12 r0 r1 r2) _ rfl Tryz.underlying58 rfl aK rfl
  ⟨⟨_,rfl,R.out.put12 D.out _ _ _⟩,bw L.out ω _ _ _⟩
set_option maxRecDepth 20000 in
theorem jT (g:Nat) (t:TypeId) (r:RC) (ux uy:Value) (x y q:Rat) (k l:Nat) (w:World) (hg:Box w g #[.bool r.s,.slice r.a r.n r.c,.bool r.t,.slice r.b r.m r.d] t) (hq:am w r.agg q) (hx:am w ux x) (hy:am w uy y) (hk:Bd k q) (hl:Bd l x) (h1:k+l<1000000) :
  Calls Tryz.prog 120 (#[ux,uy] ++ #[.pointer (some ⟨g,0,none⟩)]) w fun e w'=>dJ w' e (q*x)∧Below w.heap.size w w':=by
 have hc:=fun w' h2 h3=>dK r.agg ux q x k l w' h2 h3 hk hl h1
 have HX:=η hx;have HQ:=η hq;obtain ⟨a0,rfl,-⟩:=hx.rcv;obtain ⟨a1,rfl,-⟩:=hy.rcv;have HC:=η hc;obtain ⟨W,hW,c1,c2,c3,hBl,hS⟩:=cW w #[.bool a0.s,.slice a0.a a0.n a0.c,.bool a0.t,.slice a0.b a0.m a0.d] #[.bool a1.s,.slice a1.a a1.n a1.c,.bool a1.t,.slice a1.b a1.m a1.d] #[.bool false,.slice none 0 0,.bool false,.slice none 0 0] 56 56 56;have C:=η c3;have HBL:=η hBl;have HSZ:=η hS;obtain ⟨x0,x1,x2,x3,-⟩:=c1.four;obtain ⟨y0,y1,y2,y3,-⟩:=(hg.below hBl hg.lt).four;clear hc hx hy hq hk hl h1 hg c1 c2 c3 hBl hS
 go_enter Tryz.func120,Tryz.ntmps120
 go_wp2_with fail
 refine (HC.out _ (HQ.out.below HBL.out) (HX.out.below HBL.out)).mono ?_;rintro e w1 ⟨⟨v1,rfl,hv1⟩,hb1⟩;obtain ⟨r0,rfl,hr⟩:=hv1.rcv;have R:=η hr;have D:=η (C.out.below hb1 C.out.lt);have L:=η (ae HBL.out hb1 (ψ HSZ.out));obtain ⟨z0,z1,z2,z3,z4⟩:=D.out.four;clear hv1 hr hb1 x0 x1 x2 x3 y0 y1 y2 y3;go_wp2;exact aS Tryz.results120 (w.heap.size+2) (D.out.set4 (.bool r0.s) (.slice r0.a r0.n r0.c) (.bool r0.t) (.slice r0.b r0.m r0.d)) _ rfl Tryz.underlying56 rfl bL rfl
  ⟨⟨_,rfl,R.out.store4 D.out _ _ _ _⟩,aU L.out ω _ _ _ _⟩
theorem pX:∀ args w,(callFunc 120 args).run Tryz.prog w=.ok (.enter 120 args) w:=
 enters_of Tryz.func120 κ rfl
set_option maxRecDepth 20000 in
theorem gk (va vk:Value) (a:Q3) (q:Rat) (k l:Nat) (w:World) (ha:aA w va a) (hq:am w vk q) (hk:Bd k q) (hl:BdV l a) (h1:k+l<1000000) :
  Calls Tryz.prog 66 #[va,vk] w fun e w'=>gV w' e ⟨q*a.x,q*a.y,q*a.z⟩∧Below w.heap.size w w':=by
 have HA:=η ha;have HQ:=η hq;obtain ⟨a0,a1,a2,rfl,-⟩:=ha;obtain ⟨r,rfl,hrq⟩:=hq.rcv;obtain ⟨W,hW,c1,c2,c3,hBl,hS⟩:=cW w (ah a0 a1 a2) #[.bool r.s,.slice r.a r.n r.c,.bool r.t,.slice r.b r.m r.d] #[.bool false,.slice none 0 0,.bool false,.slice none 0 0,.bool false,.slice none 0 0,.bool false,.slice none 0 0,.bool false,.slice none 0 0,.bool false,.slice none 0 0] 58 56 58;have hc:=ke 120 #[.pointer (some ⟨w.heap.size+1,0,none⟩)] (fun x _=>q*x) a a (.agg (ah a0 a1 a2)) (.agg (ah a0 a1 a2)) W (HA.out.below hBl) (HA.out.below hBl) pX
  (fun w' hw ux uy h2 h3=>jT _ 56 r ux uy a.x a.x q k l w' (c2.below hw ω) ((hrq.below hBl).below hw) h2 h3 hk hl.1 h1)
  (fun w' hw ux uy h2 h3=>jT _ 56 r ux uy a.y a.y q k l w' (c2.below hw ω) ((hrq.below hBl).below hw) h2 h3 hk hl.2.1 h1)
  (fun w' hw ux uy h2 h3=>jT _ 56 r ux uy a.z a.z q k l w' (c2.below hw ω) ((hrq.below hBl).below hw) h2 h3 hk hl.2.2 h1)
 have HC:=η hc;have C:Hid (Box W (w.heap.size+2) (ah RC.zero RC.zero RC.zero) 58):=c3;have HBL:=η hBl;have HSZ:=η hS;obtain ⟨⟨x0,x1,x2,x3⟩,-⟩:=c1.p0;obtain ⟨⟨x4,x5,x6,x7⟩,-⟩:=c1.p1;obtain ⟨⟨x8,x9,x10,x11⟩,-⟩:=c1.p2;clear hc hk hl h1 hq hrq c1 c2 c3 hBl hS;unfold ah at hW ⊢
 go_enter Tryz.func66,Tryz.ntmps66
 go_wp2_with fail
 refine HC.out.mono ?_;rintro e w1 ⟨⟨v1,rfl,hv1⟩,hb1⟩;obtain ⟨r0,r1,r2,rfl,hr⟩:=hv1.rcv;have R:=η hr;have D:=η (C.out.below hb1 C.out.lt);have L:=η (ae HBL.out hb1 (ψ HSZ.out));obtain ⟨⟨z0,z1,z2,z3⟩,f0,f1,f2,f3⟩:=D.out.p0;obtain ⟨⟨z4,z5,z6,z7⟩,f4,f5,f6,f7⟩:=D.out.p1;obtain ⟨⟨z8,z9,z10,z11⟩,f8,f9,f10,f11⟩:=D.out.p2;clear hv1 hr hb1 x0 x1 x2 x3 x4 x5 x6 x7 x8 x9 x10 x11;go_wp2;exact aS Tryz.results66 (w.heap.size+2) (D.out.s12 r0 r1 r2) _ rfl Tryz.underlying58 rfl aK rfl
  ⟨⟨_,rfl,R.out.put12 D.out _ _ _⟩,bw L.out ω _ _ _⟩
end Go.Proofs.Υ
end

section
namespace Dowel
open Go Go.RowKit
def bt (a b:Q3):Rat:=a.x*b.x+a.y*b.y+a.z*b.z
def Q3.at (a:Q3):Nat→Rat
 | 0=>a.x
 | 1=>a.y
 | _=>a.z
def qmul (a b:Q3):Q3:=⟨a.x*b.x,a.y*b.y,a.z*b.z⟩
theorem psum3 (a b:Q3):psum (qmul a b).at 3=bt a b:=by
 show 0+a.x*b.x+a.y*b.y+a.z*b.z=_;rw [Rat.zero_add];rfl
theorem Bd.dot {k l:Nat} {a b:Q3} (ha:BdV k a) (hb:BdV l b):Bd (3*(k+l+1)+1) (bt a b):=by
 rw [← psum3];refine Bd.psum fun i hi=>?_
 match i with
 | 0=>exact ha.1.mul hb.1
 | 1=>exact ha.2.1.mul hb.2.1
 | 2=>exact ha.2.2.mul hb.2.2
theorem rats3 {w:World} {g:Nat} {r0 r1 r2:RC} {t:TypeId} {a:Q3} (h:Box w g (ah r0 r1 r2) t) (hv:aA w (.agg (ah r0 r1 r2)) a):Rats w (.some ⟨g,0,.none⟩) 3 3 a.at:=by
 obtain ⟨s0,s1,s2,he,h0,h1,h2⟩:=hv;have e:r0.agg=s0.agg∧r1.agg=s1.agg∧r2.agg=s2.agg:=by
  unfold ah at he;simp only [Value.agg.injEq,Array.mk.injEq,List.cons.injEq,Value.bool.injEq,Value.slice.injEq] at he;unfold RC.agg;simp only [Value.agg.injEq,Array.mk.injEq,List.cons.injEq,Value.bool.injEq,Value.slice.injEq,and_true];simp only [he,and_self]
 rw [← e.1] at h0;rw [← e.2.1] at h1;rw [← e.2.2] at h2;refine ⟨Nat.le_refl _,(fun h=>by cases h),fun x hx=>?_⟩;cases hx;refine ⟨rfl,h.lt,fun i hi=>?_⟩
 match i with
 | 0=>exact ⟨r0,h.p0.1,h0⟩
 | 1=>exact ⟨r1,h.p1.1,h1⟩
 | 2=>exact ⟨r2,h.p2.1,h2⟩
end Dowel
namespace Go.Proofs.Υ
open Go.RowKit Dowel
set_option maxRecDepth 20000 in
theorem gF (va vb:Value) (a b:Q3) (k l:Nat) (w:World) (ha:aA w va a) (hb:aA w vb b) (hk:BdV k a) (hl:BdV l b) (h1:k+l<200000) :
  Calls Tryz.prog 44 #[va,vb] w fun e w'=>dJ w' e (bt a b)∧Below w.heap.size w w':=by
 have hc:=fun w' h2 h3=>ke 67 #[] (· * ·) a b va vb w' h2 h3 entersMul
  (fun w' _ ux uy h2 h3=>dK ux uy a.x b.x k l w' h2 h3 hk.1 hl.1 ω)
  (fun w' _ ux uy h2 h3=>dK ux uy a.y b.y k l w' h2 h3 hk.2.1 hl.2.1 ω)
  (fun w' _ ux uy h2 h3=>dK ux uy a.z b.z k l w' h2 h3 hk.2.2 hl.2.2 ω)
 have hs:=fun g w' h2=>Sum_any (some ⟨g,0,none⟩) 3 3 (qmul a b).at (k+l) w' h2 (fun i hi=>by
  match i with
  | 0=>exact hk.1.mul hl.1
  | 1=>exact hk.2.1.mul hl.2.1
  | 2=>exact hk.2.2.mul hl.2.2) ω
 rw [psum3] at hs;have HA:=η ha;have HB:=η hb;have HSU:=η hs;obtain ⟨a0,a1,a2,rfl,-⟩:=ha;obtain ⟨b0,b1,b2,rfl,-⟩:=hb;have HC:=η hc;obtain ⟨W,hW,c1,c2,c3,hBl,hS⟩:=cW w (ah a0 a1 a2) (ah b0 b1 b2) #[.bool false,.slice none 0 0,.bool false,.slice none 0 0] 58 58 56;have C:=η c3;have HBL:=η hBl;have HSZ:=η hS;obtain ⟨⟨x0,x1,x2,x3⟩,-⟩:=c1.p0;obtain ⟨⟨x4,x5,x6,x7⟩,-⟩:=c1.p1;obtain ⟨⟨x8,x9,x10,x11⟩,-⟩:=c1.p2;obtain ⟨⟨y0,y1,y2,y3⟩,-⟩:=c2.p0;obtain ⟨⟨y4,y5,y6,y7⟩,-⟩:=c2.p1;obtain ⟨⟨y8,y9,y10,y11⟩,-⟩:=c2.p2;clear hc hs hk hl h1 c1 c2 c3 hBl hS;unfold ah at hW ⊢
 go_enter Tryz.func44,Tryz.ntmps44
 go_wp2_with fail
 refine (HC.out _ (HA.out.below HBL.out) (HB.out.below HBL.out)).mono ?_;rintro e w1 ⟨⟨v1,rfl,hv1⟩,hb1⟩;obtain ⟨r0,r1,r2,rfl,hr⟩:=hv1.rcv;have R:=η hr;have D:=η (C.out.below hb1 C.out.lt);have L:=η (ae HBL.out hb1 (ψ HSZ.out));have hn:=Box.new w1 (ah r0 r1 r2) 58 _ rfl;have hna:=(Below.refl w1.heap.size w1).alloc ρ (.cells (ah r0 r1 r2) 58);have HN:=η hn;have HNA:=η hna;clear hv1 hr hb1 hn hna x0 x1 x2 x3 x4 x5 x6 x7 x8 x9 x10 x11 y0 y1 y2 y3 y4 y5 y6 y7 y8 y9 y10 y11;unfold ah at HN HNA
 go_wp2_with fail
 refine (HSU.out _ _ (rats3 HN.out (R.out.below HNA.out))).mono ?_;rintro e w2 ⟨⟨v2,rfl,hv2⟩,hb2⟩;obtain ⟨s,rfl,hs⟩:=hv2.rcv;have S:=η hs;have hE:=(D.out.below HNA.out D.out.lt).below hb2 (by have:=D.out.lt;have:=HNA.out.size;omega);have E:=η hE;have L2:=η (ae (ae L.out HNA.out (ψ L.out.size)) hb2 (by have:=L.out.size;have:=HNA.out.size;omega));obtain ⟨z0,z1,z2,z3,z4⟩:=hE.four;clear hv2 hs hb2 hE;go_wp2;exact aS Tryz.results44 (w.heap.size+2) (E.out.set4 (.bool s.s) (.slice s.a s.n s.c) (.bool s.t) (.slice s.b s.m s.d)) _ rfl Tryz.underlying56 rfl bL rfl
  ⟨⟨_,rfl,S.out.store4 E.out _ _ _ _⟩,aU L2.out ω _ _ _ _⟩
end Go.Proofs.Υ
end
