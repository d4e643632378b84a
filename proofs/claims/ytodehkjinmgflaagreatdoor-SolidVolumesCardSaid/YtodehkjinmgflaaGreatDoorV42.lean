/- Lemmas. -/
import Derived.Test.YtodehkjinmgflaaGreatDoorV38
set_option linter.all false
set_option maxHeartbeats 0
set_option maxRecDepth 99999
namespace Go.Proofs.Υ
open Go Go.RowKit Tryz
def nG(x:Rat):Prop:=0<x.num/\x.num<100/\x.den<100
theorem jb:(prog.info? 47).map (·.size)=some 3:=by kernel_rfl
theorem point_any(va:Value)(q:Q3)(w:World)(ha:am w va q)(s0:nG q.x)(s1:nG q.y)(s2:nG q.z):
 Calls prog 45 #[va] w fun e w'=>e=.returned (.agg #[.string ⟨(dS q.x).toArray⟩,.string ⟨(dS q.y).toArray⟩,.string ⟨(dS q.z).toArray⟩])/\Bl w w':=by
 obtain⟨i,j,u,rfl,h0,h1,h2⟩:=ha;obtain⟨T0,X⟩:∃T:ByteArray,T=⟨(dS q.x).toArray⟩:=⟨_,rfl⟩;obtain⟨T1,Y⟩:∃T:ByteArray,T=⟨(dS q.y).toArray⟩:=⟨_,rfl⟩;obtain⟨T2,aa⟩:∃T:ByteArray,T=⟨(dS q.z).toArray⟩:=⟨_,rfl⟩;rw[<-X,<-Y,<-aa];have X0:Hid (∀w',Bl w w'->Calls prog 44 #[.agg #[.bool i.s,.slice i.a i.n i.c,.bool i.t,.slice i.b i.m i.d]] w' fun e F=>e=.returned (.string T0)/\Bl w' F):=fun w' hS=>by
  rw[X];exact ip _ q.x w' (h0.below hS) s0.1 s0.2.1 s0.2.2
 have X1:Hid (∀w',Bl w w'->Calls prog 44 #[.agg #[.bool j.s,.slice j.a j.n j.c,.bool j.t,.slice j.b j.m j.d]] w' fun e F=>e=.returned (.string T1)/\Bl w' F):=fun w' hS=>by
  rw[Y];exact ip _ q.y w' (h1.below hS) s1.1 s1.2.1 s1.2.2
 have X2:Hid (∀w',Bl w w'->Calls prog 44 #[.agg #[.bool u.s,.slice u.a u.n u.c,.bool u.t,.slice u.b u.m u.d]] w' fun e F=>e=.returned (.string T2)/\Bl w' F):=fun w' hS=>by
  rw[aa];exact ip _ q.z w' (h2.below hS) s2.1 s2.2.1 s2.2.2
 clear X Y aa h0 h1 h2 s0 s1 s2;obtain⟨W,hW,b1,b2,b3,hB,hS⟩:=cC w (ah i j u) #[.string ⟨#[]⟩,.string ⟨#[]⟩,.string ⟨#[]⟩] #[.string ⟨#[]⟩,.string ⟨#[]⟩,.string ⟨#[]⟩] 57 47 47;obtain⟨B2,B3,a0,a6⟩:=η4 b2 b3 hB hS;obtain⟨⟨q0,q1,q2,q3⟩,-⟩:=b1.p0;obtain⟨⟨q4,q5,q6,q7⟩,-⟩:=b1.p1;obtain⟨⟨q8,q9,a4,a5⟩,-⟩:=b1.p2;unfold ah at hW⊢;have i0:∀w,(Instr.index 57 (.agg #[.bool i.s,.slice i.a i.n i.c,.bool i.t,.slice i.b i.m i.d,.bool j.s,.slice j.a j.n j.c,.bool j.t,.slice j.b j.m j.d,.bool u.s,.slice u.a u.n u.c,.bool u.t,.slice u.b u.m u.d]) (.int .i64 0)).run prog w=.ok (.agg #[.bool i.s,.slice i.a i.n i.c,.bool i.t,.slice i.b i.m i.d]) w:=fun _=>by kernel_rfl
 have i1:∀w,(Instr.index 57 (.agg #[.bool i.s,.slice i.a i.n i.c,.bool i.t,.slice i.b i.m i.d,.bool j.s,.slice j.a j.n j.c,.bool j.t,.slice j.b j.m j.d,.bool u.s,.slice u.a u.n u.c,.bool u.t,.slice u.b u.m u.d]) (.int .i64 1)).run prog w=.ok (.agg #[.bool j.s,.slice j.a j.n j.c,.bool j.t,.slice j.b j.m j.d]) w:=fun _=>by kernel_rfl
 have i2:∀w,(Instr.index 57 (.agg #[.bool i.s,.slice i.a i.n i.c,.bool i.t,.slice i.b i.m i.d,.bool j.s,.slice j.a j.n j.c,.bool j.t,.slice j.b j.m j.d,.bool u.s,.slice u.a u.n u.c,.bool u.t,.slice u.b u.m u.d]) (.int .i64 2)).run prog w=.ok (.agg #[.bool u.s,.slice u.a u.n u.c,.bool u.t,.slice u.b u.m u.d]) w:=fun _=>by kernel_rfl
 clear b1 b2 b3 hB hS
 go_enter func45,ntmps45
 go_wp2_with fail
 clear q0 q1 q2 q3 q4 q5 q6 q7 q8 q9 a4 a5;refine aN.loop 4 ?_;refine aN.next (fun K hK=>?_)
 go_wp2_with fail
 obtain⟨U1,ap,c1,A,a1⟩:=aB W #[.bool i.s,.slice i.a i.n i.c,.bool i.t,.slice i.b i.m i.d] 55;rw[ap];have ag:=O (ae a0.o A ρ);refine(X0.o U1 ag.o).mono ?_;rintro e w1 ⟨rfl,Q⟩;obtain⟨L1,av,ab⟩:=η3 (ae ag.o Q ρ) ((B2.o.to A).below Q (B2.o.to A).lt) ((B3.o.to A).below Q (B3.o.to A).lt);obtain⟨x0,x1,x2,x3⟩:=ab.o.three;clear Q A a1 c1 ap
 go_wp2_with fail
 have G:=O (av.o.other (p:=⟨w.heap.size+2,0,none⟩) (by show w.heap.size+1≠w.heap.size+2;omega) (.string T0));have J:=O (ab.o.set 0 (.string T0));have K1:=O (L1.o.setCell (p:=⟨w.heap.size+2,0,none⟩) (by show w.heap.size<=w.heap.size+2;omega) (.string T0));clear x0 x1 x2 x3;generalize w1.setCell ⟨w.heap.size+2,0,none⟩ (.string T0)=V1 at *;refine aN.next (fun K hK=>?_)
 go_wp2_with fail
 obtain⟨U2,ar,c2,C,a2⟩:=aB V1 #[.bool j.s,.slice j.a j.n j.c,.bool j.t,.slice j.b j.m j.d] 55;rw[ar];have an:=O (ae K1.o C ρ);refine(X1.o U2 an.o).mono ?_;rintro e w2 ⟨rfl,R⟩;obtain⟨L2,aw,ac⟩:=η3 (ae an.o R ρ) ((G.o.to C).below R (G.o.to C).lt) ((J.o.to C).below R (J.o.to C).lt);obtain⟨x0,x1,x2,x3⟩:=ac.o.three;clear R C a2 c2 ar
 go_wp2_with fail
 have H:=O (aw.o.other (p:=⟨w.heap.size+2,1,none⟩) (by show w.heap.size+1≠w.heap.size+2;omega) (.string T1));have L:=O (ac.o.set 1 (.string T1));have K2:=O (L2.o.setCell (p:=⟨w.heap.size+2,1,none⟩) (by show w.heap.size<=w.heap.size+2;omega) (.string T1));clear x0 x1 x2 x3;generalize w2.setCell ⟨w.heap.size+2,1,none⟩ (.string T1)=V2 at *;refine aN.next (fun K hK=>?_)
 go_wp2_with fail
 obtain⟨U3,au,c3,E,a3⟩:=aB V2 #[.bool u.s,.slice u.a u.n u.c,.bool u.t,.slice u.b u.m u.d] 55;rw[au];have ao:=O (ae K2.o E ρ);refine(X2.o U3 ao.o).mono ?_;rintro e w3 ⟨rfl,U⟩;obtain⟨L3,ay,ad⟩:=η3 (ae ao.o U ρ) ((H.o.to E).below U (H.o.to E).lt) ((L.o.to E).below U (L.o.to E).lt);obtain⟨x0,x1,x2,x3⟩:=ad.o.three;clear U E a3 c3 au
 go_wp2_with fail
 have af:=O (ay.o.other (p:=⟨w.heap.size+2,2,none⟩) (by show w.heap.size+1≠w.heap.size+2;omega) (.string T2));have az:=O (ad.o.set 2 (.string T2));have K3:=O (L3.o.setCell (p:=⟨w.heap.size+2,2,none⟩) (by show w.heap.size<=w.heap.size+2;omega) (.string T2));clear x0 x1 x2 x3;generalize w3.setCell ⟨w.heap.size+2,2,none⟩ (.string T2)=V3 at *;refine aN.next (fun K hK=>?_);obtain⟨x0,x1,x2,-⟩:=az.o.three;obtain⟨y0,y1,y2,f0,f1,f2⟩:=af.o.three;go_wp2;exact aK results45 (w.heap.size+1) (((af.o.set 0 (.string T0)).set 1 (.string T1)).set 2 (.string T2)) _ rfl underlying47 rfl jb rfl
  ⟨rfl,((K3.o.setCell (Nat.le_add_right _ 1) _).setCell (Nat.le_add_right _ 1) _).setCell (Nat.le_add_right _ 1) _⟩
end Go.Proofs.Υ
