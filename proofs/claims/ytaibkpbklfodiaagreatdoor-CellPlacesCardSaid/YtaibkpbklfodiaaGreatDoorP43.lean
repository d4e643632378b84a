/- A vector of small positive rationals, as texts. Printed by gen/point.py. -/
import Derived.Test.YtaibkpbklfodiaaGreatDoorP17
import Derived.Test.YtaibkpbklfodiaaGreatDoorP39
set_option linter.all false
set_option maxHeartbeats 100000000
section
namespace Dowel
def qk (x:Rat):Prop:=0<x.num∧x.num<100∧x.den<100
end Dowel
namespace Go.Proofs.Υ
open Go.RowKit Dowel
theorem g9:(Tryz.prog.info? 107).map (·.size)=some 3:=by kernel_rfl
set_option maxRecDepth 20000 in
theorem point_any (va:Value) (q:Q3) (w:World) (ha:aA w va q) (s0:qk q.x) (s1:qk q.y) (s2:qk q.z) :
  Calls Tryz.prog 47 #[va] w fun e w'=>e=.returned (.agg #[.string ⟨(dF q.x).toArray⟩,.string ⟨(dF q.y).toArray⟩,.string ⟨(dF q.z).toArray⟩])∧Below w.heap.size w w':=by
 obtain ⟨r0,r1,r2,rfl,h0,h1,h2⟩:=ha;obtain ⟨T0,hT0⟩:∃ T:ByteArray,T=⟨(dF q.x).toArray⟩:=⟨_,rfl⟩;obtain ⟨T1,hT1⟩:∃ T:ByteArray,T=⟨(dF q.y).toArray⟩:=⟨_,rfl⟩;obtain ⟨T2,hT2⟩:∃ T:ByteArray,T=⟨(dF q.z).toArray⟩:=⟨_,rfl⟩;rw [← hT0,← hT1,← hT2];have X0:Hid (∀ w',Below w.heap.size w w'→Calls Tryz.prog 46 #[.agg #[.bool r0.s,.slice r0.a r0.n r0.c,.bool r0.t,.slice r0.b r0.m r0.d]] w' fun e w''=>e=.returned (.string T0)∧Below w'.heap.size w' w''):=fun w' hS=>by
  rw [hT0];exact fY _ q.x w' (h0.below hS) s0.1 s0.2.1 s0.2.2
 have X1:Hid (∀ w',Below w.heap.size w w'→Calls Tryz.prog 46 #[.agg #[.bool r1.s,.slice r1.a r1.n r1.c,.bool r1.t,.slice r1.b r1.m r1.d]] w' fun e w''=>e=.returned (.string T1)∧Below w'.heap.size w' w''):=fun w' hS=>by
  rw [hT1];exact fY _ q.y w' (h1.below hS) s1.1 s1.2.1 s1.2.2
 have X2:Hid (∀ w',Below w.heap.size w w'→Calls Tryz.prog 46 #[.agg #[.bool r2.s,.slice r2.a r2.n r2.c,.bool r2.t,.slice r2.b r2.m r2.d]] w' fun e w''=>e=.returned (.string T2)∧Below w'.heap.size w' w''):=fun w' hS=>by
  rw [hT2];exact fY _ q.z w' (h2.below hS) s2.1 s2.2.1 s2.2.2
 clear hT0 hT1 hT2 h0 h1 h2 s0 s1 s2;obtain ⟨W,hW,b1,b2,b3,hB,hS⟩:=cW w (ah r0 r1 r2) #[.string ⟨#[]⟩,.string ⟨#[]⟩,.string ⟨#[]⟩] #[.string ⟨#[]⟩,.string ⟨#[]⟩,.string ⟨#[]⟩] 58 107 107;have B2:=η b2;have B3:=η b3;have HBL:=η hB;have HSZ:=η hS;obtain ⟨⟨q0,q1,q2,q3⟩,-⟩:=b1.p0;obtain ⟨⟨q4,q5,q6,q7⟩,-⟩:=b1.p1;obtain ⟨⟨q8,q9,q10,q11⟩,-⟩:=b1.p2;unfold ah at hW ⊢;have i0:∀ w,(Instr.index 58 (.agg #[.bool r0.s,.slice r0.a r0.n r0.c,.bool r0.t,.slice r0.b r0.m r0.d,.bool r1.s,.slice r1.a r1.n r1.c,.bool r1.t,.slice r1.b r1.m r1.d,.bool r2.s,.slice r2.a r2.n r2.c,.bool r2.t,.slice r2.b r2.m r2.d]) (.int .i64 0)).run Tryz.prog w=.ok (.agg #[.bool r0.s,.slice r0.a r0.n r0.c,.bool r0.t,.slice r0.b r0.m r0.d]) w:=fun _=>by kernel_rfl
 have i1:∀ w,(Instr.index 58 (.agg #[.bool r0.s,.slice r0.a r0.n r0.c,.bool r0.t,.slice r0.b r0.m r0.d,.bool r1.s,.slice r1.a r1.n r1.c,.bool r1.t,.slice r1.b r1.m r1.d,.bool r2.s,.slice r2.a r2.n r2.c,.bool r2.t,.slice r2.b r2.m r2.d]) (.int .i64 1)).run Tryz.prog w=.ok (.agg #[.bool r1.s,.slice r1.a r1.n r1.c,.bool r1.t,.slice r1.b r1.m r1.d]) w:=fun _=>by kernel_rfl
 have i2:∀ w,(Instr.index 58 (.agg #[.bool r0.s,.slice r0.a r0.n r0.c,.bool r0.t,.slice r0.b r0.m r0.d,.bool r1.s,.slice r1.a r1.n r1.c,.bool r1.t,.slice r1.b r1.m r1.d,.bool r2.s,.slice r2.a r2.n r2.c,.bool r2.t,.slice r2.b r2.m r2.d]) (.int .i64 2)).run Tryz.prog w=.ok (.agg #[.bool r2.s,.slice r2.a r2.n r2.c,.bool r2.t,.slice r2.b r2.m r2.d]) w:=fun _=>by kernel_rfl
 clear b1 b2 b3 hB hS
 go_enter Tryz.func47,Tryz.ntmps47
 go_wp2_with fail
 clear q0 q1 q2 q3 q4 q5 q6 q7 q8 q9 q10 q11;refine aP.loop 4 ?_;refine aP.next (fun K hK=>?_)
 go_wp2_with fail
 obtain ⟨U1,hU1,c1,hc1,hz1⟩:=aG W #[.bool r0.s,.slice r0.a r0.n r0.c,.bool r0.t,.slice r0.b r0.m r0.d] 56;rw [hU1];have LU1:=η (ae HBL.out hc1 ρ);refine (X0.out U1 LU1.out).mono ?_;rintro e w1 ⟨rfl,hb1⟩;have L1:=η (ae LU1.out hb1 ρ);have B21:=η ((B2.out.below hc1 B2.out.lt).below hb1 (B2.out.below hc1 B2.out.lt).lt);have B31:=η ((B3.out.below hc1 B3.out.lt).below hb1 (B3.out.below hc1 B3.out.lt).lt);obtain ⟨x0,x1,x2,x3⟩:=B31.out.three;clear hb1 hc1 hz1 c1 hU1
 go_wp2_with fail
 have D21:=η (B21.out.other (p:=⟨w.heap.size+2,0,none⟩) (by show w.heap.size+1≠w.heap.size+2;omega) (.string T0));have D31:=η (B31.out.set 0 (.string T0));have K1:=η (L1.out.setCell (p:=⟨w.heap.size+2,0,none⟩) (by show w.heap.size≤w.heap.size+2;omega) (.string T0));clear x0 x1 x2 x3;generalize w1.setCell ⟨w.heap.size+2,0,none⟩ (.string T0)=V1 at *;refine aP.next (fun K hK=>?_)
 go_wp2_with fail
 obtain ⟨U2,hU2,c2,hc2,hz2⟩:=aG V1 #[.bool r1.s,.slice r1.a r1.n r1.c,.bool r1.t,.slice r1.b r1.m r1.d] 56;rw [hU2];have LU2:=η (ae K1.out hc2 ρ);refine (X1.out U2 LU2.out).mono ?_;rintro e w2 ⟨rfl,hb2⟩;have L2:=η (ae LU2.out hb2 ρ);have B22:=η ((D21.out.below hc2 D21.out.lt).below hb2 (D21.out.below hc2 D21.out.lt).lt);have B32:=η ((D31.out.below hc2 D31.out.lt).below hb2 (D31.out.below hc2 D31.out.lt).lt);obtain ⟨x0,x1,x2,x3⟩:=B32.out.three;clear hb2 hc2 hz2 c2 hU2
 go_wp2_with fail
 have D22:=η (B22.out.other (p:=⟨w.heap.size+2,1,none⟩) (by show w.heap.size+1≠w.heap.size+2;omega) (.string T1));have D32:=η (B32.out.set 1 (.string T1));have K2:=η (L2.out.setCell (p:=⟨w.heap.size+2,1,none⟩) (by show w.heap.size≤w.heap.size+2;omega) (.string T1));clear x0 x1 x2 x3;generalize w2.setCell ⟨w.heap.size+2,1,none⟩ (.string T1)=V2 at *;refine aP.next (fun K hK=>?_)
 go_wp2_with fail
 obtain ⟨U3,hU3,c3,hc3,hz3⟩:=aG V2 #[.bool r2.s,.slice r2.a r2.n r2.c,.bool r2.t,.slice r2.b r2.m r2.d] 56;rw [hU3];have LU3:=η (ae K2.out hc3 ρ);refine (X2.out U3 LU3.out).mono ?_;rintro e w3 ⟨rfl,hb3⟩;have L3:=η (ae LU3.out hb3 ρ);have B23:=η ((D22.out.below hc3 D22.out.lt).below hb3 (D22.out.below hc3 D22.out.lt).lt);have B33:=η ((D32.out.below hc3 D32.out.lt).below hb3 (D32.out.below hc3 D32.out.lt).lt);obtain ⟨x0,x1,x2,x3⟩:=B33.out.three;clear hb3 hc3 hz3 c3 hU3
 go_wp2_with fail
 have D23:=η (B23.out.other (p:=⟨w.heap.size+2,2,none⟩) (by show w.heap.size+1≠w.heap.size+2;omega) (.string T2));have D33:=η (B33.out.set 2 (.string T2));have K3:=η (L3.out.setCell (p:=⟨w.heap.size+2,2,none⟩) (by show w.heap.size≤w.heap.size+2;omega) (.string T2));clear x0 x1 x2 x3;generalize w3.setCell ⟨w.heap.size+2,2,none⟩ (.string T2)=V3 at *;refine aP.next (fun K hK=>?_);obtain ⟨x0,x1,x2,-⟩:=D33.out.three;obtain ⟨y0,y1,y2,f0,f1,f2⟩:=D23.out.three;go_wp2;exact aS Tryz.results47 (w.heap.size+1) (((D23.out.set 0 (.string T0)).set 1 (.string T1)).set 2 (.string T2)) _ rfl Tryz.underlying107 rfl g9 rfl
  ⟨rfl,((K3.out.setCell (Nat.le_add_right _ 1) _).setCell (Nat.le_add_right _ 1) _).setCell (Nat.le_add_right _ 1) _⟩
end Go.Proofs.Υ
end
