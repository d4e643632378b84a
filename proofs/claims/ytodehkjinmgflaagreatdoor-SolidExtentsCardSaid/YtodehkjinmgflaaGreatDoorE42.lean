/- Lemmas. -/
import Derived.Test.YtodehkjinmgflaaGreatDoorE38
set_option linter.all false
set_option maxHeartbeats 0
set_option maxRecDepth 99999
namespace Go.Proofs.Υ
open Go Go.RowKit Tryz
def nS(x:Rat):Prop:=0<x.num/\x.num<100/\x.den<100
theorem io:(prog.info? 47).map (·.size)=some 3:=by kernel_rfl
theorem point_any(va:Value)(q:Q3)(w:World)(ha:aA w va q)(s0:nS q.x)(s1:nS q.y)(s2:nS q.z):
 Calls prog 45 #[va] w fun e w'=>e=.returned (.agg #[.string ⟨(dW q.x).toArray⟩,.string ⟨(dW q.y).toArray⟩,.string ⟨(dW q.z).toArray⟩])/\Bl w w':=by
 obtain⟨j,u,A,rfl,h0,h1,h2⟩:=ha;obtain⟨T0,Y⟩:∃T:ByteArray,T=⟨(dW q.x).toArray⟩:=⟨_,rfl⟩;obtain⟨T1,aa⟩:∃T:ByteArray,T=⟨(dW q.y).toArray⟩:=⟨_,rfl⟩;obtain⟨T2,ab⟩:∃T:ByteArray,T=⟨(dW q.z).toArray⟩:=⟨_,rfl⟩;rw[<-Y,<-aa,<-ab];have X0:Hid (∀w',Bl w w'->Calls prog 44 #[.agg #[.bool j.s,.slice j.a j.n j.c,.bool j.t,.slice j.b j.m j.d]] w' fun e G=>e=.returned (.string T0)/\Bl w' G):=fun w' hS=>by
  rw[Y];exact iA _ q.x w' (h0.below hS) s0.1 s0.2.1 s0.2.2
 have X1:Hid (∀w',Bl w w'->Calls prog 44 #[.agg #[.bool u.s,.slice u.a u.n u.c,.bool u.t,.slice u.b u.m u.d]] w' fun e G=>e=.returned (.string T1)/\Bl w' G):=fun w' hS=>by
  rw[aa];exact iA _ q.y w' (h1.below hS) s1.1 s1.2.1 s1.2.2
 have X2:Hid (∀w',Bl w w'->Calls prog 44 #[.agg #[.bool A.s,.slice A.a A.n A.c,.bool A.t,.slice A.b A.m A.d]] w' fun e G=>e=.returned (.string T2)/\Bl w' G):=fun w' hS=>by
  rw[ab];exact iA _ q.z w' (h2.below hS) s2.1 s2.2.1 s2.2.2
 clear Y aa ab h0 h1 h2 s0 s1 s2;obtain⟨W,hW,b1,b2,b3,hB,hS⟩:=bX w (ah j u A) #[.string ⟨#[]⟩,.string ⟨#[]⟩,.string ⟨#[]⟩] #[.string ⟨#[]⟩,.string ⟨#[]⟩,.string ⟨#[]⟩] 57 47 47;obtain⟨B2,B3,a1,a7⟩:=η4 b2 b3 hB hS;obtain⟨⟨q0,q1,q2,q3⟩,-⟩:=b1.p0;obtain⟨⟨q4,q5,q6,q7⟩,-⟩:=b1.p1;obtain⟨⟨q8,q9,a5,a6⟩,-⟩:=b1.p2;unfold ah at hW⊢;have i0:∀w,(Instr.index 57 (.agg #[.bool j.s,.slice j.a j.n j.c,.bool j.t,.slice j.b j.m j.d,.bool u.s,.slice u.a u.n u.c,.bool u.t,.slice u.b u.m u.d,.bool A.s,.slice A.a A.n A.c,.bool A.t,.slice A.b A.m A.d]) (.int .i64 0)).run prog w=.ok (.agg #[.bool j.s,.slice j.a j.n j.c,.bool j.t,.slice j.b j.m j.d]) w:=fun _=>by kernel_rfl
 have i1:∀w,(Instr.index 57 (.agg #[.bool j.s,.slice j.a j.n j.c,.bool j.t,.slice j.b j.m j.d,.bool u.s,.slice u.a u.n u.c,.bool u.t,.slice u.b u.m u.d,.bool A.s,.slice A.a A.n A.c,.bool A.t,.slice A.b A.m A.d]) (.int .i64 1)).run prog w=.ok (.agg #[.bool u.s,.slice u.a u.n u.c,.bool u.t,.slice u.b u.m u.d]) w:=fun _=>by kernel_rfl
 have i2:∀w,(Instr.index 57 (.agg #[.bool j.s,.slice j.a j.n j.c,.bool j.t,.slice j.b j.m j.d,.bool u.s,.slice u.a u.n u.c,.bool u.t,.slice u.b u.m u.d,.bool A.s,.slice A.a A.n A.c,.bool A.t,.slice A.b A.m A.d]) (.int .i64 2)).run prog w=.ok (.agg #[.bool A.s,.slice A.a A.n A.c,.bool A.t,.slice A.b A.m A.d]) w:=fun _=>by kernel_rfl
 clear b1 b2 b3 hB hS
 go_enter func45,ntmps45
 go_wp2_with fail
 clear q0 q1 q2 q3 q4 q5 q6 q7 q8 q9 a5 a6;refine aT.loop 4 ?_;refine aT.next (fun K hK=>?_)
 go_wp2_with fail
 obtain⟨U1,ar,c1,C,a2⟩:=aB W #[.bool j.s,.slice j.a j.n j.c,.bool j.t,.slice j.b j.m j.d] 55;rw[ar];have an:=O (ae a1.o C ρ);refine(X0.o U1 an.o).mono ?_;rintro e w1 ⟨rfl,R⟩;obtain⟨L1,aw,ac⟩:=η3 (ae an.o R ρ) ((B2.o.to C).below R (B2.o.to C).lt) ((B3.o.to C).below R (B3.o.to C).lt);obtain⟨x0,x1,x2,x3⟩:=ac.o.three;clear R C a2 c1 ar
 go_wp2_with fail
 have H:=O (aw.o.other (p:=⟨w.heap.size+2,0,none⟩) (by show w.heap.size+1≠w.heap.size+2;omega) (.string T0));have L:=O (ac.o.set 0 (.string T0));have K1:=O (L1.o.setCell (p:=⟨w.heap.size+2,0,none⟩) (by show w.heap.size<=w.heap.size+2;omega) (.string T0));clear x0 x1 x2 x3;generalize w1.setCell ⟨w.heap.size+2,0,none⟩ (.string T0)=V1 at *;refine aT.next (fun K hK=>?_)
 go_wp2_with fail
 obtain⟨U2,au,c2,E,a3⟩:=aB V1 #[.bool u.s,.slice u.a u.n u.c,.bool u.t,.slice u.b u.m u.d] 55;rw[au];have ao:=O (ae K1.o E ρ);refine(X1.o U2 ao.o).mono ?_;rintro e w2 ⟨rfl,U⟩;obtain⟨L2,ay,ad⟩:=η3 (ae ao.o U ρ) ((H.o.to E).below U (H.o.to E).lt) ((L.o.to E).below U (L.o.to E).lt);obtain⟨x0,x1,x2,x3⟩:=ad.o.three;clear U E a3 c2 au
 go_wp2_with fail
 have J:=O (ay.o.other (p:=⟨w.heap.size+2,1,none⟩) (by show w.heap.size+1≠w.heap.size+2;omega) (.string T1));have Q:=O (ad.o.set 1 (.string T1));have K2:=O (L2.o.setCell (p:=⟨w.heap.size+2,1,none⟩) (by show w.heap.size<=w.heap.size+2;omega) (.string T1));clear x0 x1 x2 x3;generalize w2.setCell ⟨w.heap.size+2,1,none⟩ (.string T1)=V2 at *;refine aT.next (fun K hK=>?_)
 go_wp2_with fail
 obtain⟨U3,av,c3,F,a4⟩:=aB V2 #[.bool A.s,.slice A.a A.n A.c,.bool A.t,.slice A.b A.m A.d] 55;rw[av];have ap:=O (ae K2.o F ρ);refine(X2.o U3 ap.o).mono ?_;rintro e w3 ⟨rfl,X⟩;obtain⟨L3,az,af⟩:=η3 (ae ap.o X ρ) ((J.o.to F).below X (J.o.to F).lt) ((Q.o.to F).below X (Q.o.to F).lt);obtain⟨x0,x1,x2,x3⟩:=af.o.three;clear X F a4 c3 av
 go_wp2_with fail
 have ag:=O (az.o.other (p:=⟨w.heap.size+2,2,none⟩) (by show w.heap.size+1≠w.heap.size+2;omega) (.string T2));have a0:=O (af.o.set 2 (.string T2));have K3:=O (L3.o.setCell (p:=⟨w.heap.size+2,2,none⟩) (by show w.heap.size<=w.heap.size+2;omega) (.string T2));clear x0 x1 x2 x3;generalize w3.setCell ⟨w.heap.size+2,2,none⟩ (.string T2)=V3 at *;refine aT.next (fun K hK=>?_);obtain⟨x0,x1,x2,-⟩:=a0.o.three;obtain⟨y0,y1,y2,f0,f1,f2⟩:=ag.o.three;go_wp2;exact aL results45 (w.heap.size+1) (((ag.o.set 0 (.string T0)).set 1 (.string T1)).set 2 (.string T2)) _ rfl underlying47 rfl io rfl
  ⟨rfl,((K3.o.setCell (Nat.le_add_right _ 1) _).setCell (Nat.le_add_right _ 1) _).setCell (Nat.le_add_right _ 1) _⟩
end Go.Proofs.Υ
