/- The walks of package integer: Gcd, DivMod. The walk of package integer: DivMod, where the rest is 0. Package rational: what its values are in a world; one, From, Num, Sign, whole, Den. Package rational: Neg, reduced. Package rational: reduced. Package rational: Add, Mul. Package rational: Sub, Div. -/
import Derived.Test.YtaibkpbklfodiaaGreatDoorP9
import Derived.Deep.LoopGhost
set_option linter.all false
set_option maxHeartbeats 100000000
section
namespace Go.Proofs.Υ
open Go.RowKit Dowel
def GcdI (w wr:World) (G k:Nat) (xv yv:Value):Prop:=
 ∃ a n c d b m e f,xv=.slice a n c∧yv=.slice b m e∧Mag wr a n c d∧Mag wr b m e f∧Nz d∧Nz f∧n≤1000000∧m≤1000000∧val f=k∧Nat.gcd (val d) (val f)=G∧Below w.heap.size w wr
theorem mj (va vb:Value) (x y:Int) (w:World) (ha:aN w va x) (hb:aN w vb y) (sx:Small x) (sy:Small y) :
  Calls Tryz.prog 91 #[va,vb] w fun e w'=>cX w' e (Int.gcd x y:Nat)∧Below w.heap.size w w':=by
 obtain ⟨s1,a1,n1,c1,xs,rfl,hs1,hm1,hn1,hv1,hl1⟩:=ha.open sx;obtain ⟨s2,a2,n2,c2,ys,rfl,hs2,hm2,hn2,hv2,hl2⟩:=hb.open sy;have hG:Nat.gcd (val xs) (val ys)=Int.gcd x y:=by rw [hv1,hv2];rfl
 have HG:=η hG;have M1:=η hm1;have M2:=η hm2;obtain ⟨W,hW,b1,b2,b3,hB,hS⟩:=cW w #[.bool s1,.slice a1 n1 c1] #[.bool s2,.slice a2 n2 c2] #[.bool false,.slice none 0 0] 54 54 54;have HBL:=η hB;have HSZ:=η hS;have B1:=η b1;have B2:=η b2;have B3:=η b3;have HW:=η hW;clear hB hS b1 b2 b3 hW ha hb sx sy hm1 hm2 hs1 hs2 hv1 hv2 hG;generalize Int.gcd x y=G at *
 go_enter Tryz.func91,Tryz.ntmps91
 go_wp2
 go_quiet (fail)
 rw [HW.out];go_wp2
 go_loopg [5,6] (val ys) (fun k xv yv wr=>GcdI W wr G k xv yv)
 case atStart =>
  have hd:Below W.heap.size W (W.drewN nq):=aJ β _;exact ⟨_,_,_,xs,_,_,_,ys,rfl,rfl,(M1.out.below HBL.out).below hd,(M2.out.below HBL.out).below hd,hn1,hn2,hl1,hl2,rfl,HG.out,hd⟩
 case round =>
  obtain ⟨a,n,c,d,b,m,e,f,rfl,rfl,hd,hf,nd,nf,hn,hm,hk,hg,hbl⟩:=hrel;have D:=η hd;have F:=η hf;have ND:=η nd;have NF:=η nf;have K:=η hk;have GG:=η hg;have L:=η hbl;clear hd hf nd nf hk hg hbl;by_cases hm0:0<m
  ·have hf0:0<val f:=eh NF.out (by intro h;have:=F.out.len;rw [h] at this;simp at this;omega)
   have HF0:=η hf0;clear hf0
   go_wp2_with fail
   refine (jK _ _ _ _ _ _ d f _ D.out F.out ND.out NF.out hn hm HF0.out).mono ?_;rintro e0 w1 ⟨⟨p1,p2,p3,p4,p5,p6,p7,p8,rfl,q1,q2,q3,q4,q5,q6⟩,hb1⟩;have Q4:=η q4;have Q5:=η q5;have Q6:=η q6;have L1:=η hb1;clear q1 q2 q3 q4 q5 q6 hb1;go_wp2
   go_roundg (val p8)
   case measure =>
    rw [Q6.out,← K.out];exact Nat.mod_lt _ HF0.out
   case rel =>
    refine ⟨_,_,_,f,_,_,_,p8,rfl,rfl,F.out.below L1.out,Q4.out,NF.out,Q5.out,hm,?_,rfl,?_,ae L.out L1.out ρ⟩
    ·have h1:p8.length≤f.length:=fS F.out.dg Q5.out (by rw [Q6.out];exact Nat.le_of_lt (Nat.mod_lt _ HF0.out))
     have:=Q4.out.len;have:=F.out.len;omega
    ·rw [Q6.out,← GG.out,Nat.gcd_comm (val d),Nat.gcd_rec (val f) (val d),Nat.gcd_comm]
  ·obtain rfl:m=0:=ω
   have hf0:f=[]:=List.length_eq_zero_iff.1 (ψ F.out.len);have hval:val d=G:=by have:=GG.out;rw [hf0] at this;simpa [val] using this
   obtain ⟨x0,x1,x2,x3⟩:=(B3.out.below L.out (ψ HSZ.out)).two;have HVV:=η hval;clear hm0 hf0 hval;go_wp2;have b4:=B3.out.below L.out (ψ HSZ.out);refine aS Tryz.results91 (w.heap.size+2) (b4.set2 (.bool false) (.slice a n c)) _ rfl Tryz.underlying54 rfl dh rfl
    ⟨cX.boxed (mY D.out ND.out false _ (by rw [HVV.out];rfl) (by simp)) b4,aO (ae HBL.out L.out (ψ HSZ.out)) ω _ _⟩
end Go.Proofs.Υ
end

section
namespace Dowel
open Go Go.RowKit
theorem ret_box2 {P:Program} {fn:Func} {R:Ending→World→Prop} {a:Act} {w:World} {p q u:Tmp} {ty ty':TypeId} (h:fn.results=#[.cell p ty,.cell q ty',.tmp u]) (g g':Nat) {cs cs':Array Value} {t t':TypeId}
  (hg:Box w g cs t) (hg':Box w g' cs' t') (d d':TypeDesc) (hp:a.tmps.getD p undef=.pointer (some ⟨g,0,.none⟩)) (hp':a.tmps.getD q undef=.pointer (some ⟨g',0,.none⟩))
  (hu:P.underlying ty=some d) (hu':P.underlying ty'=some d')
  (hd:(match d with | .struct _ | .array _ _=>true | _=>false)=true) (hd':(match d' with | .struct _ | .array _ _=>true | _=>false)=true)
  (hi:(P.info? ty).map (·.size)=some cs.size) (hi':(P.info? ty').map (·.size)=some cs'.size) (hdf:a.defers=[])
  (hR:R (.returned (.tuple #[.agg cs,.agg cs',a.tmps.getD u undef])) w) :
  bodyPost P fn R .ret a w:=by
 refine bodyPost_ret ?_ hdf hR;have e:a.tmps[p]?.getD undef=.pointer (some ⟨g,0,none⟩):=by simpa using hp
 have e':a.tmps[q]?.getD undef=.pointer (some ⟨g',0,none⟩):=by simpa using hp'
 simp [results,h,e,e',asAddr,run_loadVar_row w g t ty cs _ d hg hu hd hi,run_loadVar_row w g' t' ty' cs' _ d' hg' hu' hd' hi']
theorem bP {P:Program} {fn:Func} {R:Ending→World→Prop} {a:Act} {w:World} {p u:Tmp} {ty:TypeId} (h:fn.results=#[.cell p ty,.tmp u]) (g:Nat) {cs:Array Value} {t:TypeId}
  (hg:Box w g cs t) (d:TypeDesc) (hp:a.tmps.getD p undef=.pointer (some ⟨g,0,.none⟩)) (hu:P.underlying ty=some d)
  (hd:(match d with | .struct _ | .array _ _=>true | _=>false)=true) (hi:(P.info? ty).map (·.size)=some cs.size) (hdf:a.defers=[])
  (hR:R (.returned (.tuple #[.agg cs,a.tmps.getD u undef])) w) :
  bodyPost P fn R .ret a w:=by
 refine bodyPost_ret ?_ hdf hR;have e:a.tmps[p]?.getD undef=.pointer (some ⟨g,0,none⟩):=by simpa using hp
 simp [results,h,e,asAddr,run_loadVar_row w g t ty cs _ d hg hu hd hi]
theorem lf (w:World) (c1 c2 c3 c4:Array Value) (t1 t2 t3 t4:TypeId) :
  ∃ W,(((w.alloc (.cells c1 t1)).alloc (.cells c2 t2)).alloc (.cells c3 t3)).alloc (.cells c4 t4)=W∧Box W w.heap.size c1 t1∧Box W (w.heap.size+1) c2 t2∧Box W (w.heap.size+2) c3 t3∧Box W (w.heap.size+3) c4 t4 ∧
   Below w.heap.size w W∧W.heap.size=w.heap.size+4:=
 ⟨_,rfl,(((Box.new w c1 t1 _ rfl).old _).old _).old _,((Box.new _ c2 t2 _ (by simp)).old _).old _,(Box.new _ c3 t3 _ (by simp)).old _,Box.new _ c4 t4 _ (by simp),by go_grown,by simp⟩
theorem sgn_div {x y:Int} (hy:0<y) (h:y ∣ x) (b:Bool) (hb:b=decide (x<0)):sgn b (x.natAbs / y.natAbs)=x / y:=by
 obtain ⟨k,rfl⟩:=h;rw [Int.natAbs_mul,Nat.mul_div_cancel_left _ ω,Int.mul_ediv_cancel_left _ ω,hb];unfold sgn;by_cases hk:k<0
 ·have:y*k<0:=Int.mul_neg_of_pos_of_neg hy hk
  rw [if_pos (by simpa using this)];omega
 ·have:0≤y*k:=Int.mul_nonneg ω ω
  rw [if_neg (by simpa using this)];omega
theorem mod_zero {x y:Int} (h:y ∣ x):x.natAbs % y.natAbs=0:=by
 obtain ⟨k,rfl⟩:=h;rw [Int.natAbs_mul,Nat.mul_mod_right]
theorem keep11 {W w':World} {n g1 g2:Nat} {a b c d:Value} {t1 t2:TypeId} (b1:Box W g1 #[a,b] t1) (b2:Box W g2 #[c,d] t2) (h:Below n W w') (h1:g1<n) (h2:g2<n) :
  w'.cell? ⟨g1,0,.none⟩=.some a∧w'.cell? ⟨g2,0,.none⟩=.some c:=⟨(b1.below h h1).cell 0,(b2.below h h2).cell 0⟩
theorem keep11_set {W w':World} {n g1 g2:Nat} {a b c d:Value} {t1 t2:TypeId} (b1:Box W g1 #[a,b] t1) (b2:Box W g2 #[c,d] t2) (h:Below n W w') (h1:g1<n) (h2:g2<n) {g3:Nat} (h3:g1≠g3) (h4:g2≠g3) (x y:Value) :
  ((w'.setCell ⟨g3,0,.none⟩ x).setCell ⟨g3,1,.none⟩ y).cell? ⟨g1,0,.none⟩=.some a∧((w'.setCell ⟨g3,0,.none⟩ x).setCell ⟨g3,1,.none⟩ y).cell? ⟨g2,0,.none⟩=.some c:=
 ⟨((b1.below h h1).other2 h3 x y).cell 0,((b2.below h h2).other2 h4 x y).cell 0⟩
theorem keep11_set2 {W w':World} {n g1 g2:Nat} {a b c d:Value} {t1 t2:TypeId} (b1:Box W g1 #[a,b] t1) (b2:Box W g2 #[c,d] t2) (h:Below n W w') (h1:g1<n) (h2:g2<n) {g3 g4:Nat} (h3:g1≠g3) (h4:g2≠g3) (h5:g1≠g4) (h6:g2≠g4) (x y x' y':Value) :
  ((((w'.setCell ⟨g3,0,.none⟩ x).setCell ⟨g3,1,.none⟩ y).setCell ⟨g4,0,.none⟩ x').setCell ⟨g4,1,.none⟩ y').cell? ⟨g1,0,.none⟩=.some a ∧
  ((((w'.setCell ⟨g3,0,.none⟩ x).setCell ⟨g3,1,.none⟩ y).setCell ⟨g4,0,.none⟩ x').setCell ⟨g4,1,.none⟩ y').cell? ⟨g2,0,.none⟩=.some c:=
 ⟨(((b1.below h h1).other2 h3 x y).other2 h5 x' y').cell 0,(((b2.below h h2).other2 h4 x y).other2 h6 x' y').cell 0⟩
end Dowel
namespace Go.Proofs.Υ
open Go.RowKit Dowel
def RetQuo (w:World) (e:Ending) (z:Int):Prop:=∃ v u,e=.returned (.tuple #[v,u,.int .i64 0])∧aN w v z
def RetQuo2 (w:World) (e:Ending) (z:Int):Prop:=∃ v s a n c,e=.returned (.tuple #[v,.agg #[.bool s,.slice a n c],.int .i64 0])∧aN w v z
theorem lU (va vb:Value) (x y:Int) (w:World) (ha:aN w va x) (hb:aN w vb y) (sx:Small x) (sy:Small y) (hy:0<y) (hd:y ∣ x) :
    Calls Tryz.prog 90 #[va,vb] w fun e w'=>RetQuo2 w' e (x / y)∧Below w.heap.size w w':=by
  have HB:=η hb;obtain ⟨s1,a1,n1,c1,xs,rfl,hs1,hm1,hn1,hv1,hl1⟩:=ha.open sx;obtain ⟨s2,a2,n2,c2,ys,rfl,hs2,hm2,hn2,hv2,hl2⟩:=hb.open sy;obtain rfl:s2=false:=by rw [hs2];simp;omega
  have hY:0<val ys:=ω;have hQ:=sgn_div hy hd s1 hs1;have hM:=mod_zero hd;rw [← hv1,← hv2] at hQ hM;have HQ:=η hQ;have HM:=η hM;have HY:=η hY;have M1:=η hm1;have M2:=η hm2;obtain ⟨W,hW,b1,b2,b3,b4,hB,hS⟩:=lf w #[.bool s1,.slice a1 n1 c1] #[.bool false,.slice a2 n2 c2] #[.bool false,.slice none 0 0] #[.bool false,.slice none 0 0] 54 54 54 54;have HBL:=η hB;have HSZ:=η hS;have B1:=η b1;have B2:=η b2;have B3:=η b3;have B4:=η b4;have HW:=η hW;have hc:dl y 0=1:=by
    unfold dl;split
    · omega
    · rfl
  clear hB hS b1 b2 b3 b4 hW ha hb hm1 hm2 hs1 hs2 hv1 hv2 hQ hM hY;obtain ⟨x0,x1,-,-⟩:=B1.out.two;obtain ⟨y0,y1,-,-⟩:=B2.out.two
  go_enter Tryz.func90,Tryz.ntmps90
  go_wp2_with fail
  rw [HW.out]
  go_wp2_with fail
  refine (eQ _ y _ (HB.out.below HBL.out) sy).mono ?_;rw [hc];rintro e w0 ⟨rfl,hb0⟩;have L0:=η hb0;have hh0:_:=(B1.out.below L0.out (ψ HSZ.out)).two;have hh1:_:=(B2.out.below L0.out (ψ HSZ.out)).two;obtain ⟨x0',x1',-,-⟩:=hh0;obtain ⟨y0',y1',-,-⟩:=hh1;clear hb0
  go_wp2_with fail
  refine (jK _ _ _ _ _ _ xs ys _ (M1.out.below (ae HBL.out L0.out (ψ HSZ.out))) (M2.out.below (ae HBL.out L0.out (ψ HSZ.out))) hn1 hn2 hl1 hl2 HY.out).mono ?_;rintro e1 w1 ⟨⟨p1,p2,p3,p4,p5,p6,p7,p8,rfl,q1,q2,q3,q4,q5,q6⟩,hb1⟩;have Q1:=η q1;have Q3:=η q3;have Q4:=η q4;have Q6:=η q6;have hl3:p2≤1000000:=by
    have:=fS M1.out.dg q2 (by rw [q3];exact Nat.div_le_self _ _);have:=q1.len;have:=M1.out.len;omega
  have hl4:p6≤1000000:=by
    have:=fS M1.out.dg q5 (by rw [q6];exact Nat.mod_le _ _);have:=q4.len;have:=M1.out.len;omega
  have L1:=η (ae L0.out hb1 ρ);clear q1 q2 q3 q4 q5 q6 hb1
  go_wp2_with fail
  go_region_held3 (fun w'=>w'.cell? ⟨w.heap.size,0,none⟩=some (.bool s1)∧w'.cell? ⟨w.heap.size+1,0,none⟩=some (.bool false))
    (first | with_reducible exact keep11_set2 B1.out B2.out L3.out (ψ HSZ.out) (ψ HSZ.out) ω ω ω ω _ _ _ _
           | with_reducible exact keep11_set B1.out B2.out L3.out (ψ HSZ.out) (ψ HSZ.out) ω ω _ _
           | with_reducible exact keep11 B1.out B2.out L3.out (ψ HSZ.out) (ψ HSZ.out)
           | with_reducible exact keep11 B1.out B2.out L2.out (ψ HSZ.out) (ψ HSZ.out)
           | with_reducible exact keep11 B1.out B2.out L1.out.drew (ψ HSZ.out) (ψ HSZ.out))
    (first
      | (have _hv:=V2.out;clear _hv;go_at_call 124;refine (dz _ p5 p6 p7 p8 w2 (Q4.out.below H2.out) ω).mono ?_;rw [Q6.out,HM.out];rintro e w3 ⟨⟨v3,rfl,hv3⟩,hb3⟩
         have V3:=η hv3;have VQ:=η (V2.out.below hb3);have L3:Hid (Below W.heap.size W w3):=ae L2.out hb3 ρ;obtain ⟨s4,a4,n4,c4,d4,rfl,-⟩:=hv3;obtain ⟨z0,z1,z2,z3⟩:=(B3.out.below L3.out (ψ HSZ.out)).two;obtain ⟨u0,u1,u2,u3⟩:=(B4.out.below L3.out (ψ HSZ.out)).two;clear hb3)
      | (go_at_call 124;refine (dz _ p1 p2 p3 p4 w1.drew (Q1.out.below β.drew) ω).mono ?_;rw [Q3.out];rintro e w2 ⟨⟨v2,rfl,hv2⟩,hb2⟩
         have V2:=η hv2;have L2:Hid (Below W.heap.size W w2):=ae L1.out.drew hb2 ρ;have H2:Hid (Below w1.heap.size w1 w2):=ae β.drew hb2 ρ;obtain ⟨s3,a3,n3,c3,d3,rfl,-⟩:=hv2;clear hb2))
  obtain ⟨X,hX⟩:∃ X,((((w3.setCell ⟨w.heap.size+1+1,0,none⟩ (.bool s3)).setCell ⟨w.heap.size+1+1,1,none⟩ (.slice a3 n3 c3)).setCell ⟨w.heap.size+1+1+1,0,none⟩ (.bool s4)).setCell ⟨w.heap.size+1+1+1,1,none⟩ (.slice a4 n4 c4))=X:=⟨_,rfl⟩;have b3:=B3.out.below L3.out (ψ HSZ.out);have b4:=B4.out.below L3.out (ψ HSZ.out);have k3:Box X (w.heap.size+2) #[.bool s3,.slice a3 n3 c3] 54:=hX ▸ (b3.set2 (.bool s3) (.slice a3 n3 c3)).other2 ω _ _;have b4':=b4.other2 (g':=w.heap.size+2) (i:=0) (j:=1) ω (.bool s3) (.slice a3 n3 c3);have k4:Box X (w.heap.size+3) #[.bool s4,.slice a4 n4 c4] 54:=hX ▸ b4'.set2 (.bool s4) (.slice a4 n4 c4);have i3:aN X (.agg #[.bool s3,.slice a3 n3 c3]) (x / y):=by
    rw [← hX,← HQ.out];exact (VQ.out.store2 b3 _ _).store2 b4' _ _
  have i4:aN X (.agg #[.bool s4,.slice a4 n4 c4]) 0:=by
    rw [← hX];have:=V3.out;rw [show sgn s1 0=0 from by unfold sgn;cases s1 <;> rfl] at this;exact (this.store2 b3 _ _).store2 b4' _ _
  have hb5:Below w.heap.size w X:=by
    rw [← hX];exact aO (aO (ae HBL.out L3.out (ψ HSZ.out)) ω _ _) ω _ _
  have K3:=η k3;have K4:=η k4;have I3:=η i3;have I4:=η i4;have L5:=η hb5;have X1:=η hX;clear b3 b4 k3 k4 b4' i3 i4 hb5 hX
  go_wp2_with fail
  rw [X1.out];refine (eQ _ 0 _ I4.out ⟨0,by omega,by simp⟩).mono ?_;rw [show dl 0 0=0 from rfl];rintro e w4 ⟨rfl,hb4⟩;have h5:=K3.out.below hb4 K3.out.lt;have h6:=K4.out.below hb4 K4.out.lt;have K5:=η h5;have K6:=η h6;have I5:=η (I3.out.below hb4);have L6:=η (ae L5.out hb4 ρ);obtain ⟨z0,z1,z2,z3⟩:=h5.two;obtain ⟨u0,u1,u2,u3⟩:=h6.two;clear h5 h6 hb4 X1 K3 K4 I3 I4 L5;go_wp2;go_region;go_wp2;have b5:Box ((((w4.setCell ⟨w.heap.size+1+1,0,none⟩ (.bool s3)).setCell ⟨w.heap.size+1+1,1,none⟩ (.slice a3 n3 c3)).setCell ⟨w.heap.size+1+1+1,0,none⟩ (.bool s4)).setCell ⟨w.heap.size+1+1+1,1,none⟩ (.slice a4 n4 c4)).drew (w.heap.size+1+1) #[.bool s3,.slice a3 n3 c3] 54:=
    (K5.out.set2 (.bool s3) (.slice a3 n3 c3)).other2 ω _ _
  have b6':=K6.out.other2 (g':=w.heap.size+1+1) (i:=0) (j:=1) ω (.bool s3) (.slice a3 n3 c3);have b6:Box ((((w4.setCell ⟨w.heap.size+1+1,0,none⟩ (.bool s3)).setCell ⟨w.heap.size+1+1,1,none⟩ (.slice a3 n3 c3)).setCell ⟨w.heap.size+1+1+1,0,none⟩ (.bool s4)).setCell ⟨w.heap.size+1+1+1,1,none⟩ (.slice a4 n4 c4)).drew (w.heap.size+1+1+1) #[.bool s4,.slice a4 n4 c4] 54:=
    b6'.set2 (.bool s4) (.slice a4 n4 c4)
  refine ret_box2 Tryz.results90 (w.heap.size+1+1) (w.heap.size+1+1+1) b5 b6 _ _ rfl rfl Tryz.underlying54 Tryz.underlying54 rfl rfl dh dh rfl ⟨⟨_,_,_,_,_,rfl,?_⟩,?_⟩
  · exact ((I5.out.store2 K5.out _ _).store2 b6' _ _).below β.drew
  · exact (aO (aO L6.out ω _ _) ω _ _).drew
theorem kF (va vb:Value) (x y:Int) (w:World) (ha:aN w va x) (hb:aN w vb y) (sx:Small x) (sy:Small y) (hy:0<y) (hd:y ∣ x) :
  Calls Tryz.prog 90 #[va,vb] w fun e w'=>RetQuo w' e (x / y)∧Below w.heap.size w w':=
 (lU va vb x y w ha hb sx sy hy hd).mono fun e w' h=>by
  obtain ⟨⟨v,s,a,n,c,h1,h2⟩,h3⟩:=h;exact ⟨⟨v,_,h1,h2⟩,h3⟩
end Go.Proofs.Υ
end

section
namespace Dowel
open Go Go.RowKit
def am (w:World) (v:Value) (q:Rat):Prop:=
 ∃ s1 a1 n1 c1 s2 a2 n2 c2 d,v=.agg #[.bool s1,.slice a1 n1 c1,.bool s2,.slice a2 n2 c2]∧aN w (.agg #[.bool s1,.slice a1 n1 c1]) q.num ∧
  aN w (.agg #[.bool s2,.slice a2 n2 c2]) d∧(d=q.den∨d=0∧q.den=1)
theorem am.below {w w':World} {v:Value} {q:Rat} (h:am w v q) (hb:Below w.heap.size w w'):am w' v q:=by
 obtain ⟨s1,a1,n1,c1,s2,a2,n2,c2,d,h1,h2,h3,h4⟩:=h;exact ⟨s1,a1,n1,c1,s2,a2,n2,c2,d,h1,h2.below hb,h3.below hb,h4⟩
def dJ (w:World) (e:Ending) (q:Rat):Prop:=∃ v,e=.returned v∧am w v q
def Bd (k:Nat) (q:Rat):Prop:=q.num.natAbs<B ^ k∧q.den<B ^ k
theorem Bd.num {k:Nat} {q:Rat} (h:Bd k q) (hk:k≤1000000):Small q.num:=⟨k,hk,h.1⟩
theorem Bd.den {k:Nat} {q:Rat} (h:Bd k q) (hk:k≤1000000):Small (q.den:Int):=⟨k,hk,h.2⟩
theorem Bd.mono {k l:Nat} {q:Rat} (h:Bd k q) (hl:k≤l):Bd l q:=
 have:=Nat.pow_le_pow_right (show 0<B by unfold B;omega) hl
 ⟨Nat.lt_of_lt_of_le h.1 this,Nat.lt_of_lt_of_le h.2 this⟩
theorem small_zero:Small 0:=⟨0,by omega,by simp⟩
theorem ou:Small 1:=⟨1,by omega,by unfold B;simp⟩
theorem Bd.den' {k:Nat} {q:Rat} {d:Int} (h:Bd k q) (hk:k≤1000000) (hd:d=q.den∨d=0∧q.den=1):Small d:=by
 rcases hd with rfl | ⟨rfl,-⟩
 ·exact h.den hk
 ·exact small_zero
theorem Bd.pow_mul {k l:Nat} {a b:Nat} (ha:a<B ^ k) (hb:b<B ^ l):a*b<B ^ (k+l):=by
 rw [Nat.pow_add];exact Nat.mul_lt_mul'' ha hb
theorem eA {k:Nat} {n d:Int} (hn:n.natAbs<B ^ k) (hd:d.natAbs<B ^ k) (h0:d≠0):Bd k (Rat.divInt n d):=by
 refine ⟨?_,?_⟩
 ·rw [Rat.num_divInt]
  refine Nat.lt_of_le_of_lt (Nat.le_trans ?_ (Nat.le_refl n.natAbs)) hn;have h1:(d.sign*n / (d.gcd n:Nat)).natAbs≤(d.sign*n).natAbs:=Int.natAbs_ediv_le_natAbs _ _;have h2:(d.sign*n).natAbs=n.natAbs:=by rw [Int.natAbs_mul,Int.natAbs_sign_of_ne_zero h0,Nat.one_mul]
  omega
 ·rw [Rat.den_divInt,if_neg h0]
  exact Nat.lt_of_le_of_lt (Nat.div_le_self _ _) hd
theorem jQ (x y:Rat):x+y=Rat.divInt (x.num*y.den+y.num*x.den) ((x.den*y.den:Nat):Int):=by rw [Rat.add_def',Rat.divInt_ofNat]
theorem jH (x y:Rat):x*y=Rat.divInt (x.num*y.num) ((x.den*y.den:Nat):Int):=by rw [Rat.mul_def',Rat.divInt_ofNat]
theorem Bd.add {k l:Nat} {x y:Rat} (hx:Bd k x) (hy:Bd l y):Bd (k+l+1) (x+y):=by
 rw [jQ];have h1:=Bd.pow_mul hx.1 hy.2;have h2:=Bd.pow_mul hy.1 hx.2;have h3:=Bd.pow_mul hx.2 hy.2;have h4:B ^ (k+l+1)=B ^ (k+l)*B:=Nat.pow_succ ..;have h5:B ^ (k+l)*2≤B ^ (k+l)*B:=Nat.mul_le_mul_left _ (by unfold B;omega);rw [show l+k=k+l from by omega] at h2;refine eA ?_ ?_ ?_
 ·refine Nat.lt_of_le_of_lt (Int.natAbs_add_le _ _) ?_
  rw [Int.natAbs_mul,Int.natAbs_mul,Int.natAbs_natCast,Int.natAbs_natCast];omega
 ·rw [Int.natAbs_natCast];omega
 ·have:=Nat.mul_pos x.den_pos y.den_pos;omega
theorem Bd.mul {k l:Nat} {x y:Rat} (hx:Bd k x) (hy:Bd l y):Bd (k+l) (x*y):=by
 rw [jH];refine eA ?_ ?_ ?_
 ·rw [Int.natAbs_mul];exact Bd.pow_mul hx.1 hy.1
 ·rw [Int.natAbs_natCast];exact Bd.pow_mul hx.2 hy.2
 ·have:=Nat.mul_pos x.den_pos y.den_pos;omega
theorem Bd.neg {k:Nat} {x:Rat} (hx:Bd k x):Bd k (-x):=⟨by rw [Rat.neg_num,Int.natAbs_neg];exact hx.1,by rw [Rat.neg_den];exact hx.2⟩
theorem Bd.sub {k l:Nat} {x y:Rat} (hx:Bd k x) (hy:Bd l y):Bd (k+l+1) (x - y):=by rw [Rat.sub_eq_add_neg];exact hx.add hy.neg
theorem Bd.int (n:Int) (h:n.natAbs<B ^ 2):Bd 2 (n:Rat):=⟨h,by show 1<B ^ 2;unfold B;omega⟩
theorem Bd.zero:Bd 1 0:=⟨by show 0<B ^ 1;unfold B;omega,by show 1<B ^ 1;unfold B;omega⟩
theorem am.open {w:World} {v:Value} {q:Rat} (h:am w v q) :
   ∃ s1 a1 n1 c1 s2 a2 n2 c2 d,v=.agg #[.bool s1,.slice a1 n1 c1,.bool s2,.slice a2 n2 c2]∧aN w (.agg #[.bool s1,.slice a1 n1 c1]) q.num ∧
    aN w (.agg #[.bool s2,.slice a2 n2 c2]) d∧(d=q.den∨d=0∧q.den=1):=h
theorem iq (w:World):aN w (.agg #[.bool false,.slice .none 0 0]) 0:=⟨_,_,_,_,[],rfl,rfl,Mag.nil w,Or.inl rfl,rfl⟩
theorem jj {w:World} {s:Bool} {a:Option Addr} {n c:Nat} {z:Int} (h:aN w (.agg #[.bool s,.slice a n c]) z):am w (.agg #[.bool s,.slice a n c,.bool false,.slice .none 0 0]) (z:Rat):=
 ⟨_,_,_,_,_,_,_,_,0,rfl,h,iq w,Or.inr ⟨rfl,rfl⟩⟩
theorem aN.store4 {w:World} {v:Value} {z:Int} (h:aN w v z) {g:Nat} {b b':Bool} {a a':Option Addr} {n c n' c':Nat} {t:TypeId} (hb:Box w g #[.bool b,.slice a n c,.bool b',.slice a' n' c'] t) (x y x' y':Value) :
  aN ((((w.setCell ⟨g,0,.none⟩ x).setCell ⟨g,1,.none⟩ y).setCell ⟨g,2,.none⟩ x').setCell ⟨g,3,.none⟩ y') v z:=by
 obtain ⟨h0,h1,h2,h3,-⟩:=hb.four;refine (((h.setCell h0 (fL.bool b) x).setCell ?_ (fL.slice a n c) y).setCell ?_ (fL.bool b') x').setCell ?_ (fL.slice a' n' c') y'
 ·rw [World.cell?_setCell_other _ _ _ _ (by intro e;cases e)];exact h1
 ·rw [World.cell?_setCell_other _ _ _ _ (by intro e;cases e),World.cell?_setCell_other _ _ _ _ (by intro e;cases e)];exact h2
 ·rw [World.cell?_setCell_other _ _ _ _ (by intro e;cases e),World.cell?_setCell_other _ _ _ _ (by intro e;cases e),World.cell?_setCell_other _ _ _ _ (by intro e;cases e)];exact h3
theorem am.store4 {w:World} {v:Value} {q:Rat} (h:am w v q) {g:Nat} {b b':Bool} {a a':Option Addr} {n c n' c':Nat} {t:TypeId} (hb:Box w g #[.bool b,.slice a n c,.bool b',.slice a' n' c'] t) (x y x' y':Value) :
  am ((((w.setCell ⟨g,0,.none⟩ x).setCell ⟨g,1,.none⟩ y).setCell ⟨g,2,.none⟩ x').setCell ⟨g,3,.none⟩ y') v q:=by
 obtain ⟨s1,a1,n1,c1,s2,a2,n2,c2,d,h1,h2,h3,h4⟩:=h;exact ⟨s1,a1,n1,c1,s2,a2,n2,c2,d,h1,h2.store4 hb _ _ _ _,h3.store4 hb _ _ _ _,h4⟩
theorem aU {w w':World} {n g:Nat} (h:Below n w w') (hg:n≤g) (x y x' y':Value) :
  Below n w ((((w'.setCell ⟨g,0,.none⟩ x).setCell ⟨g,1,.none⟩ y).setCell ⟨g,2,.none⟩ x').setCell ⟨g,3,.none⟩ y'):=
 (((h.setCell hg x).setCell hg y).setCell hg x').setCell hg y'
theorem oL {W w':World} {n g1:Nat} {a b c d:Value} {t1:TypeId} (b1:Box W g1 #[a,b,c,d] t1) (h:Below n W w') (h1:g1<n) :
  w'.cell? ⟨g1,0,.none⟩=.some a∧w'.cell? ⟨g1,1,.none⟩=.some b∧w'.cell? ⟨g1,2,.none⟩=.some c∧w'.cell? ⟨g1,3,.none⟩=.some d:=
 ⟨(b1.below h h1).cell 0,(b1.below h h1).cell 1,(b1.below h h1).cell 2,(b1.below h h1).cell 3⟩
theorem Box.other4 {w:World} {g:Nat} {cs:Array Value} {t:TypeId} (h:Box w g cs t) {g':Nat} (hp:g≠g') (x y z u:Value) :
  Box ((((w.setCell ⟨g',0,.none⟩ x).setCell ⟨g',1,.none⟩ y).setCell ⟨g',2,.none⟩ z).setCell ⟨g',3,.none⟩ u) g cs t:=
 (h.other2 hp x y).other2 hp z u
end Dowel
namespace Go.Proofs.Υ
open Go.RowKit Dowel
theorem bL:(Tryz.prog.info? 56).map (·.size)=some 4:=by kernel_rfl
theorem j8 (w:World):Calls Tryz.prog 122 #[] w fun e w'=>cX w' e 1∧Below w.heap.size w w':=by
 go_enter Tryz.func122,Tryz.ntmps122
 obtain ⟨W,hW,b1,hB,hS⟩:=aG w #[.bool false,.slice none 0 0] 54
 go_wp2_with fail
 refine (ig 1 _ ω ω).mono ?_;rintro e w1 ⟨⟨v1,rfl,hv1⟩,hb1⟩;have V1:=η hv1;have hb2:=b1.below hb1 ω;have B2:=η hb2;have L1:=η (ae hB hb1 ρ);obtain ⟨s3,a3,n3,c3,d3,rfl,-⟩:=hv1;obtain ⟨x0,x1,x2,x3⟩:=hb2.two;clear hb1 hb2 b1 hB hS hW;go_wp2;exact aS Tryz.results122 w.heap.size (B2.out.set2 (.bool s3) (.slice a3 n3 c3)) _ rfl Tryz.underlying54 rfl dh rfl
  ⟨cX.boxed V1.out B2.out,aO L1.out ρ _ _⟩
theorem eI (n:Int) (w:World) (h1:-9223372036854775808≤n) (h2:n≤9223372036854775807) :
  Calls Tryz.prog 28 #[.int .i64 n] w fun e w'=>dJ w' e (n:Rat)∧Below w.heap.size w w':=by
 have hc:=ig n;have HC:=η (fun w=>hc w h1 h2);clear hc h1 h2
 go_enter Tryz.func28,Tryz.ntmps28
 obtain ⟨W,hW,b1,hB,hS⟩:=aG w #[.bool false,.slice none 0 0,.bool false,.slice none 0 0] 56
 go_wp2_with fail
 refine (HC.out _).mono ?_;rintro e w1 ⟨⟨v1,rfl,hv1⟩,hb1⟩;have V1:=η hv1;have hb2:=b1.below hb1 ω;have B2:=η hb2;have L1:=η (ae hB hb1 ρ);obtain ⟨s3,a3,n3,c3,d3,rfl,-⟩:=hv1;obtain ⟨x0,x1,x2,x3,x4⟩:=hb2.four;clear hb1 hb2 b1 hB hS hW;go_wp2;exact aS Tryz.results28 w.heap.size (B2.out.set4 (.bool s3) (.slice a3 n3 c3) (.bool false) (.slice none 0 0)) _ rfl Tryz.underlying56 rfl bL rfl
  ⟨⟨_,rfl,(jj V1.out).store4 B2.out _ _ _ _⟩,aU L1.out ρ _ _ _ _⟩
theorem RSign_any (va:Value) (x:Rat) (k:Nat) (w:World) (ha:am w va x) (hk:Bd k x) (h1:k≤1000000) :
  Calls Tryz.prog 116 #[va] w fun e w'=>e=.returned (.int .i64 (dl x.num 0))∧Below w.heap.size w w':=by
 obtain ⟨s1,a1,n1,c1,s2,a2,n2,c2,d,rfl,i1,-,-⟩:=ha.open;have I1:=η i1;have sx:=η (hk.num h1);clear ha i1 hk h1;obtain ⟨W,hW,b1,hB,hS⟩:=aG w #[.bool s1,.slice a1 n1 c1,.bool s2,.slice a2 n2 c2] 56;obtain ⟨x0,x1,x2,x3,x4⟩:=b1.four
 go_enter Tryz.func116,Tryz.ntmps116
 go_wp2_with fail
 refine (eQ _ x.num _ (I1.out.below hB) sx.out).mono ?_;rintro e w1 ⟨rfl,hb1⟩;have L1:=η (ae hB hb1 ρ);clear hb1 hB hS hW b1 x0 x1 x2 x3 x4;go_wp2;exact bodyPost_ret (results_tmp Tryz.results116 _ _ _) rfl ⟨rfl,L1.out⟩
theorem Num_any (va:Value) (x:Rat) (w:World) (ha:am w va x) :
  Calls Tryz.prog 93 #[va] w fun e w'=>cX w' e x.num∧Below w.heap.size w w':=by
 obtain ⟨s1,a1,n1,c1,s2,a2,n2,c2,d,rfl,i1,-,-⟩:=ha.open;have I1:=η i1;clear ha i1;obtain ⟨W,hW,b1,b2,hB,hS⟩:=da w #[.bool s1,.slice a1 n1 c1,.bool s2,.slice a2 n2 c2] #[.bool false,.slice none 0 0] 56 54;obtain ⟨x0,x1,x2,x3,x4⟩:=b1.four;obtain ⟨y0,y1,y2,y3⟩:=b2.two
 go_enter Tryz.func93,Tryz.ntmps93
 go_wp2;exact aS Tryz.results93 (w.heap.size+1) (b2.set2 (.bool s1) (.slice a1 n1 c1)) _ rfl Tryz.underlying54 rfl dh rfl
  ⟨cX.boxed (I1.out.below hB) b2,aO hB ω _ _⟩
theorem cmpZ_pos {n:Nat} (h:0<n):dl (n:Int) 0=1:=by
 unfold dl;split
 ·omega
 ·split
  ·rfl
  ·omega
theorem pY {x y:Int}:dl x y=0↔x=y:=by
 unfold dl;split
 ·constructor <;> intro <;> omega
 ·split <;> constructor <;> intro <;> omega
theorem cM (va:Value) (x:Rat) (k:Nat) (w:World) (ha:am w va x) (hk:Bd k x) (h1:k≤1000000) :
  Calls Tryz.prog 71 #[va] w fun e w'=>cX w' e x.den∧Below w.heap.size w w':=by
 obtain ⟨s1,a1,n1,c1,s2,a2,n2,c2,d,rfl,-,i1,hd⟩:=ha.open;have I1:=η i1;have sd:=η (hk.den' h1 hd);clear ha i1 hk h1;obtain ⟨W,hW,b1,b2,hB,hS⟩:=da w #[.bool s1,.slice a1 n1 c1,.bool s2,.slice a2 n2 c2] #[.bool false,.slice none 0 0] 56 54;have B1:=η b1;have B2:=η b2;have L0:=η hB;have HSZ:=η hS;obtain ⟨x0,x1,x2,x3,x4⟩:=b1.four;clear b1 b2 hB hS;by_cases h0:d=0
 ·subst h0
  obtain hd1:x.den=1:=by rcases hd with h | h;exact absurd h (ψ x.den_pos);exact h.2
  go_enter Tryz.func71,Tryz.ntmps71
  go_wp2_with fail
  refine (eQ _ 0 _ (I1.out.below L0.out) sd.out).mono ?_;rw [show dl 0 0=0 from rfl];rintro e w1 ⟨rfl,hb1⟩;have L1:=η (ae L0.out hb1 (ψ HSZ.out));have b2':=B2.out.below hb1 (ψ HSZ.out);have B2':=η b2';clear hb1 hW x0 x1 x2 x3 x4 b2'
  go_wp2_with fail
  refine (j8 _).mono ?_;rintro e w2 ⟨⟨v1,rfl,hv1⟩,hb2⟩;have V1:=η hv1;have b3:=B2'.out.below hb2 B2'.out.lt;have B3:=η b3;have L2:=η (ae L1.out hb2 ρ);obtain ⟨s3,a3,n3,c3,d3,rfl,-⟩:=hv1;obtain ⟨x0,x1,x2,x3⟩:=b3.two;clear hb2 b3;go_wp2;exact aS Tryz.results71 (w.heap.size+1) (B3.out.set2 (.bool s3) (.slice a3 n3 c3)) _ rfl Tryz.underlying54 rfl dh rfl
   ⟨by rw [hd1];exact cX.boxed V1.out B3.out,aO L2.out ω _ _⟩
 ·obtain rfl:d=x.den:=by rcases hd with h | h;exact h;exact absurd h.1 h0
  go_enter Tryz.func71,Tryz.ntmps71
  go_wp2_with fail
  refine (eQ _ x.den _ (I1.out.below L0.out) sd.out).mono ?_;rw [cmpZ_pos x.den_pos];rintro e w1 ⟨rfl,hb1⟩;have L1:=η (ae L0.out hb1 (ψ HSZ.out));have b1':=B1.out.below hb1 (ψ HSZ.out);have b2':=B2.out.below hb1 (ψ HSZ.out);have B2':=η b2';obtain ⟨x0,x1,x2,x3,x4⟩:=b1'.four;obtain ⟨y0,y1,y2,y3⟩:=b2'.two;clear hb1 hW b1' b2';go_wp2;exact aS Tryz.results71 (w.heap.size+1) (B2'.out.set2 (.bool s2) (.slice a2 n2 c2)) _ rfl Tryz.underlying54 rfl dh rfl
   ⟨cX.boxed (I1.out.below L1.out) B2'.out,aO L1.out ω _ _⟩
theorem bW (va:Value) (x:Rat) (k:Nat) (w:World) (ha:am w va x) (hk:Bd k x) (h1:k≤1000000) :
    Calls Tryz.prog 68 #[va] w fun e w'=>e=.returned (.bool (decide (x.den=1)))∧Below w.heap.size w w':=by
  obtain ⟨s1,a1,n1,c1,s2,a2,n2,c2,d,rfl,-,i1,hd⟩:=ha.open;have I1:=η i1;have sd:=η (hk.den' h1 hd);clear ha i1 hk h1;obtain ⟨W,hW,b1,hB,hS⟩:=aG w #[.bool s1,.slice a1 n1 c1,.bool s2,.slice a2 n2 c2] 56;have B1:=η b1;have L0:=η hB;have HSZ:=η hS;obtain ⟨x0,x1,x2,x3,x4⟩:=b1.four;clear b1 hB hS;by_cases h0:d=0
  · subst h0
    obtain hd1:x.den=1:=by rcases hd with h | h;exact absurd h (ψ x.den_pos);exact h.2
    go_enter Tryz.func68,Tryz.ntmps68
    go_wp2_with fail
    first | (go_region_with (go_at_call 121;refine (eQ _ 0 _ (I1.out.below L0.out.drew) sd.out).mono ?_;rw [show dl 0 0=0 from rfl];rintro e w1 ⟨rfl,hb1⟩;have L1:Hid (Below W.heap.size W w1):=ae β.drew hb1 ρ;clear hb1)) | fail
    all_goals
      go_wp2;exact bodyPost_ret (results_tmp Tryz.results68 _ _ _) rfl ⟨by rw [hd1];rfl,ae L0.out L1.out (ψ HSZ.out)⟩
  · obtain rfl:d=x.den:=by rcases hd with h | h;exact h;exact absurd h.1 h0
    have hcp:=cmpZ_pos x.den_pos;have HCP:=η hcp;have hcc:dl x.den 1=0∧decide (x.den=1)=true∨dl x.den 1=1∧decide (x.den=1)=false:=by
      have:=x.den_pos;unfold dl;by_cases h:x.den=1
      · left;rw [h];exact ⟨rfl,rfl⟩
      · right;rw [if_neg ω,if_pos ω];exact ⟨rfl,by simpa using h⟩
    clear hcp
    rcases hcc with ⟨hc,hd⟩ | ⟨hc,hd⟩
    all_goals
      have HC:=η hc;have HD:=η hd;clear hc hd
      go_enter Tryz.func68,Tryz.ntmps68
      go_wp2_with fail
      go_region_held3 (fun w'=>w'.cell? ⟨w.heap.size,2,none⟩=some (.bool s2)∧w'.cell? ⟨w.heap.size,3,none⟩=some (.slice a2 n2 c2))
        (first | with_reducible exact (oL B1.out L3.out (ψ HSZ.out)).2.2
               | with_reducible exact (oL B1.out L2.out (ψ HSZ.out)).2.2
               | with_reducible exact (oL B1.out L1.out (ψ HSZ.out)).2.2
               | with_reducible exact (oL B1.out (Below.refl W.heap.size W).drew (ψ HSZ.out)).2.2)
        (first
          | (go_at_call 121;refine (eQ _ (x.den:Int) _ (I1.out.below L0.out.drew) sd.out).mono ?_;rw [HCP.out];rintro e w1 ⟨rfl,hb1⟩
             have L1:Hid (Below W.heap.size W w1):=ae β.drew hb1 ρ;clear hb1)
          | (go_at_call 122;refine (j8 _).mono ?_;rintro e w2 ⟨⟨v2,rfl,hv2⟩,hb2⟩
             have V2:=η hv2;have L2:Hid (Below W.heap.size W w2):=ae L1.out hb2 ρ;clear hb2 hv2)
          | (go_at_call 69;refine (dM _ _ (x.den:Int) 1 _ (I1.out.below (ae L0.out L2.out (ψ HSZ.out))) V2.out sd.out ou).mono ?_;rw [HC.out];rintro e w3 ⟨rfl,hb3⟩
             have L3:Hid (Below W.heap.size W w3):=ae L2.out hb3 ρ;clear hb3))
      go_wp2;exact bodyPost_ret (results_tmp Tryz.results68 _ _ _) rfl ⟨by rw [HD.out];rfl,ae L0.out L3.out (ψ HSZ.out)⟩
end Go.Proofs.Υ
end

section
namespace Dowel
open Go Go.RowKit
theorem aR {W w':World} {n g1 g2:Nat} {a b c d a' b' c' d':Value} {t1 t2:TypeId} (b1:Box W g1 #[a,b,c,d] t1) (b2:Box W g2 #[a',b',c',d'] t2) (h:Below n W w') (h1:g1<n) (h2:g2<n) :
  w'.cell? ⟨g1,0,.none⟩=.some a∧w'.cell? ⟨g1,1,.none⟩=.some b∧w'.cell? ⟨g1,2,.none⟩=.some c∧w'.cell? ⟨g1,3,.none⟩=.some d ∧
  w'.cell? ⟨g2,0,.none⟩=.some a'∧w'.cell? ⟨g2,1,.none⟩=.some b'∧w'.cell? ⟨g2,2,.none⟩=.some c'∧w'.cell? ⟨g2,3,.none⟩=.some d':=
 ⟨(b1.below h h1).cell 0,(b1.below h h1).cell 1,(b1.below h h1).cell 2,(b1.below h h1).cell 3,(b2.below h h2).cell 0,(b2.below h h2).cell 1,(b2.below h h2).cell 2,(b2.below h h2).cell 3⟩
theorem kV {W w':World} {n g1:Nat} {a b c d:Value} {t1:TypeId} (b1:Box W g1 #[a,b,c,d] t1) (h:Below n W w') (h1:g1<n) {g3:Nat} (h3:g1≠g3) (x y z u:Value) :
  ((((w'.setCell ⟨g3,0,.none⟩ x).setCell ⟨g3,1,.none⟩ y).setCell ⟨g3,2,.none⟩ z).setCell ⟨g3,3,.none⟩ u).cell? ⟨g1,0,.none⟩=.some a ∧
  ((((w'.setCell ⟨g3,0,.none⟩ x).setCell ⟨g3,1,.none⟩ y).setCell ⟨g3,2,.none⟩ z).setCell ⟨g3,3,.none⟩ u).cell? ⟨g1,1,.none⟩=.some b ∧
  ((((w'.setCell ⟨g3,0,.none⟩ x).setCell ⟨g3,1,.none⟩ y).setCell ⟨g3,2,.none⟩ z).setCell ⟨g3,3,.none⟩ u).cell? ⟨g1,2,.none⟩=.some c ∧
  ((((w'.setCell ⟨g3,0,.none⟩ x).setCell ⟨g3,1,.none⟩ y).setCell ⟨g3,2,.none⟩ z).setCell ⟨g3,3,.none⟩ u).cell? ⟨g1,3,.none⟩=.some d:=
 ⟨((b1.below h h1).other4 h3 x y z u).cell 0,((b1.below h h1).other4 h3 x y z u).cell 1,((b1.below h h1).other4 h3 x y z u).cell 2,((b1.below h h1).other4 h3 x y z u).cell 3⟩
theorem ff {W w':World} {n g1 g2:Nat} {a b c d a' b' c' d':Value} {t1 t2:TypeId} (b1:Box W g1 #[a,b,c,d] t1) (b2:Box W g2 #[a',b',c',d'] t2) (h:Below n W w') (h1:g1<n) (h2:g2<n) {g3:Nat} (h3:g1≠g3) (h4:g2≠g3) (x y z u:Value) :
  ((((w'.setCell ⟨g3,0,.none⟩ x).setCell ⟨g3,1,.none⟩ y).setCell ⟨g3,2,.none⟩ z).setCell ⟨g3,3,.none⟩ u).cell? ⟨g1,0,.none⟩=.some a ∧
  ((((w'.setCell ⟨g3,0,.none⟩ x).setCell ⟨g3,1,.none⟩ y).setCell ⟨g3,2,.none⟩ z).setCell ⟨g3,3,.none⟩ u).cell? ⟨g1,1,.none⟩=.some b ∧
  ((((w'.setCell ⟨g3,0,.none⟩ x).setCell ⟨g3,1,.none⟩ y).setCell ⟨g3,2,.none⟩ z).setCell ⟨g3,3,.none⟩ u).cell? ⟨g1,2,.none⟩=.some c ∧
  ((((w'.setCell ⟨g3,0,.none⟩ x).setCell ⟨g3,1,.none⟩ y).setCell ⟨g3,2,.none⟩ z).setCell ⟨g3,3,.none⟩ u).cell? ⟨g1,3,.none⟩=.some d ∧
  ((((w'.setCell ⟨g3,0,.none⟩ x).setCell ⟨g3,1,.none⟩ y).setCell ⟨g3,2,.none⟩ z).setCell ⟨g3,3,.none⟩ u).cell? ⟨g2,0,.none⟩=.some a' ∧
  ((((w'.setCell ⟨g3,0,.none⟩ x).setCell ⟨g3,1,.none⟩ y).setCell ⟨g3,2,.none⟩ z).setCell ⟨g3,3,.none⟩ u).cell? ⟨g2,1,.none⟩=.some b' ∧
  ((((w'.setCell ⟨g3,0,.none⟩ x).setCell ⟨g3,1,.none⟩ y).setCell ⟨g3,2,.none⟩ z).setCell ⟨g3,3,.none⟩ u).cell? ⟨g2,2,.none⟩=.some c' ∧
  ((((w'.setCell ⟨g3,0,.none⟩ x).setCell ⟨g3,1,.none⟩ y).setCell ⟨g3,2,.none⟩ z).setCell ⟨g3,3,.none⟩ u).cell? ⟨g2,3,.none⟩=.some d':=by
 obtain ⟨p0,p1,p2,p3⟩:=kV b1 h h1 h3 x y z u;exact ⟨p0,p1,p2,p3,kV b2 h h2 h4 x y z u⟩
theorem iB (W:World):Below W.heap.size W W:=Below.refl _ _
end Dowel
namespace Go.Proofs.Υ
open Go.RowKit Dowel
theorem RNeg_any (va:Value) (x:Rat) (k:Nat) (w:World) (ha:am w va x) (hk:Bd k x) (h1:k≤1000000) :
    Calls Tryz.prog 117 #[va] w fun e w'=>dJ w' e (-x)∧Below w.heap.size w w':=by
  obtain ⟨s1,a1,n1,c1,s2,a2,n2,c2,d,rfl,i1,i2,hd⟩:=ha.open;have I1:=η i1;have I2:=η i2;have HD:=η hd;have sx:=η (hk.num h1);clear ha i1 i2 hk h1 hd;obtain ⟨W,hW,b1,b2,hB,hS⟩:=da w #[.bool s1,.slice a1 n1 c1,.bool s2,.slice a2 n2 c2] #[.bool false,.slice none 0 0,.bool false,.slice none 0 0] 56 56;have B1:=η b1;have B2:=η b2;have HBL:=η hB;have HSZ:=η hS;have L0:=η (iB W);have HW:=η hW;clear b1 b2 hB hS hW
  go_enter Tryz.func117,Tryz.ntmps117
  go_wp2_with fail
  rw [HW.out]
  go_region_held3 (fun w'=>w'.cell? ⟨w.heap.size,0,none⟩=some (.bool s1)∧w'.cell? ⟨w.heap.size,1,none⟩=some (.slice a1 n1 c1)∧w'.cell? ⟨w.heap.size,2,none⟩=some (.bool s2)∧w'.cell? ⟨w.heap.size,3,none⟩=some (.slice a2 n2 c2))
    (first | with_reducible exact (kV B1.out L1.out (ψ HSZ.out) ω _ _ _ _)
           | with_reducible exact (oL B1.out L1.out (ψ HSZ.out))
           | with_reducible exact (oL B1.out L0.out.drew (ψ HSZ.out)))
    (first
      | (go_at_call 137;refine (qu _ x.num _ (I1.out.below (ae HBL.out L0.out.drew (ψ HSZ.out))) sx.out).mono ?_;rintro e w1 ⟨⟨v1,rfl,hv1⟩,hb1⟩
         have V1:=η hv1;have L1:Hid (Below W.heap.size W w1):=ae L0.out.drew hb1 ρ;obtain ⟨s3,a3,n3,c3,d3,rfl,-⟩:=hv1;obtain ⟨y0,y1,y2,y3,y4⟩:=(B2.out.below L1.out (ψ HSZ.out)).four;clear hb1))
  go_wp2;have b3:=B2.out.below L1.out (ψ HSZ.out)
  exact aS Tryz.results117 (w.heap.size+1) (b3.set4 (.bool s3) (.slice a3 n3 c3) (.bool s2) (.slice a2 n2 c2)) _ rfl Tryz.underlying56 rfl bL rfl
    ⟨⟨_,rfl,am.store4 (q:=-x) ⟨_,_,_,_,_,_,_,_,d,rfl,V1.out,I2.out.below (ae HBL.out L1.out (ψ HSZ.out)),HD.out⟩ b3 _ _ _ _⟩,aU (ae HBL.out L1.out (ψ HSZ.out)) ω _ _ _ _⟩
theorem nA (x y:Rat):dl (x.num*y.den) (y.num*x.den)=if x<y then -1 else if y<x then 1 else 0:=by
 unfold dl;simp only [Rat.lt_iff]
def dY (x y:Rat):Int:=if x<y then -1 else if y<x then 1 else 0
theorem start2 (w:World) (va vb:Value) (x y:Rat) (ha:am w va x) (hb:am w vb y) (t1 t2:TypeId) :
  ∃ s1 a1 n1 c1 s2 a2 n2 c2 s3 a3 n3 c3 s4 a4 n4 c4,va=.agg #[.bool s1,.slice a1 n1 c1,.bool s2,.slice a2 n2 c2]∧vb=.agg #[.bool s3,.slice a3 n3 c3,.bool s4,.slice a4 n4 c4] ∧
   aN w (.agg #[.bool s1,.slice a1 n1 c1]) x.num∧aN w (.agg #[.bool s3,.slice a3 n3 c3]) y.num ∧
   am w (.agg #[.bool s1,.slice a1 n1 c1,.bool s2,.slice a2 n2 c2]) x∧am w (.agg #[.bool s3,.slice a3 n3 c3,.bool s4,.slice a4 n4 c4]) y ∧
   ∃ W,(w.alloc (.cells #[.bool s1,.slice a1 n1 c1,.bool s2,.slice a2 n2 c2] t1)).alloc (.cells #[.bool s3,.slice a3 n3 c3,.bool s4,.slice a4 n4 c4] t2)=W ∧
    Box W w.heap.size #[.bool s1,.slice a1 n1 c1,.bool s2,.slice a2 n2 c2] t1∧Box W (w.heap.size+1) #[.bool s3,.slice a3 n3 c3,.bool s4,.slice a4 n4 c4] t2∧Below w.heap.size w W∧W.heap.size=w.heap.size+2:=by
 obtain ⟨s1,a1,n1,c1,s2,a2,n2,c2,d1,rfl,i1,i2,hd1⟩:=ha.open;obtain ⟨s3,a3,n3,c3,s4,a4,n4,c4,d2,rfl,i3,i4,hd2⟩:=hb.open;exact ⟨s1,a1,n1,c1,s2,a2,n2,c2,s3,a3,n3,c3,s4,a4,n4,c4,rfl,rfl,i1,i3,ha,hb,da w _ _ t1 t2⟩
theorem cS (va vb:Value) (x y:Rat) (k l:Nat) (w:World) (ha:am w va x) (hb:am w vb y) (hk:Bd k x) (hl:Bd l y) (h1:k+l≤1000000) :
    Calls Tryz.prog 27 #[va,vb] w fun e w'=>e=.returned (.int .i64 (dY x y))∧Below w.heap.size w w':=by
  obtain ⟨s1,a1,n1,c1,s2,a2,n2,c2,s3,a3,n3,c3,s4,a4,n4,c4,rfl,rfl,i1,i3,ra,rb,W,hW,b1,b2,hB,hS⟩:=start2 w va vb x y ha hb 56 56;have I1:=η i1;have I2:=η i3;have R1:=η ra;have R2:=η rb;have BX:=η hk;have BY:=η hl;have B1:=η b1;have B2:=η b2;have HBL:=η hB;have HSZ:=η hS;have HW:=η hW;have sx:=η (hk.num ω);have sy:=η (hl.num ω);have sdx:=η (hk.den ω);have sdy:=η (hl.den ω);have sxy:Hid (Small (x.num*y.den)):=⟨k+l,h1,by rw [Int.natAbs_mul];exact Bd.pow_mul hk.1 hl.2⟩;have syx:Hid (Small (y.num*x.den)):=⟨k+l,h1,by rw [Int.natAbs_mul,show k+l=l+k from by omega];exact Bd.pow_mul hl.1 hk.2⟩;obtain ⟨x0,x1,x2,x3,x4⟩:=b1.four;obtain ⟨y0,y1,y2,y3,y4⟩:=b2.four;have hk1:k≤1000000:=ω;have hl1:l≤1000000:=ω;clear ha hb i1 i3 ra rb hk hl b1 b2 hB hS h1;by_cases hx:x.den=1
  · by_cases hy:y.den=1
    · have hc:dl x.num y.num=dY x y:=by have:=nA x y;rw [hx,hy] at this;simpa [dY] using this
      have HC:=η hc;have HX:Hid (decide (x.den=1)=true):=decide_eq_true hx;have HY:Hid (decide (y.den=1)=true):=decide_eq_true hy;clear hc hx hy
      go_enter Tryz.func27,Tryz.ntmps27
      go_wp2_with fail
      refine (bW _ x k _ (R1.out.below HBL.out) BX.out hk1).mono ?_;rw [HX.out];rintro e w1 ⟨rfl,hb1⟩;have L1:=η hb1;obtain ⟨z0,z1,z2,z3,z4⟩:=(B2.out.below L1.out (ψ HSZ.out)).four;clear hb1
      go_wp2_with fail
      refine (bW _ y l _ (R2.out.below (ae HBL.out L1.out (ψ HSZ.out))) BY.out hl1).mono ?_;rw [HY.out];rintro e w2 ⟨rfl,hb2⟩;have L2:Hid (Below W.heap.size W w2):=ae L1.out hb2 ρ;obtain ⟨u0,u1,u2,u3,u4⟩:=(B2.out.below L2.out (ψ HSZ.out)).four;obtain ⟨v0,v1,v2,v3,v4⟩:=(B1.out.below L2.out (ψ HSZ.out)).four;clear hb2
      go_wp2_with fail
      refine (dM _ _ x.num y.num _ (I1.out.below (ae HBL.out L2.out (ψ HSZ.out))) (I2.out.below (ae HBL.out L2.out (ψ HSZ.out))) sx.out sy.out).mono ?_;rw [HC.out];rintro e w3 ⟨rfl,hb3⟩;have L3:=η (ae L2.out hb3 ρ);clear hb3;go_wp2;exact bodyPost_ret (results_tmp Tryz.results27 _ _ _) rfl ⟨rfl,ae HBL.out L3.out (ψ HSZ.out)⟩
    · have HX:Hid (decide (x.den=1)=true):=decide_eq_true hx
      have HY:Hid (decide (y.den=1)=false):=decide_eq_false hy;have HC:Hid (dl (x.num*y.den) (y.num*x.den)=dY x y):=nA x y;clear hx hy
      go_enter Tryz.func27,Tryz.ntmps27
      go_wp2_with fail
      refine (bW _ x k _ (R1.out.below HBL.out) BX.out hk1).mono ?_;rw [HX.out];rintro e w1 ⟨rfl,hb1⟩;have L1:=η hb1;obtain ⟨z0,z1,z2,z3,z4⟩:=(B2.out.below L1.out (ψ HSZ.out)).four;clear hb1
      go_wp2_with fail
      refine (bW _ y l _ (R2.out.below (ae HBL.out L1.out (ψ HSZ.out))) BY.out hl1).mono ?_;rw [HY.out];rintro e w0 ⟨rfl,hb2⟩;have L0:Hid (Below W.heap.size W w0):=ae L1.out hb2 ρ;clear hb2 L1
      go_wp2_with fail
      go_region_held3 (fun w'=>w'.cell? ⟨w.heap.size,0,none⟩=some (.bool s1)∧w'.cell? ⟨w.heap.size,1,none⟩=some (.slice a1 n1 c1)∧w'.cell? ⟨w.heap.size,2,none⟩=some (.bool s2)∧w'.cell? ⟨w.heap.size,3,none⟩=some (.slice a2 n2 c2)∧w'.cell? ⟨w.heap.size+1,0,none⟩=some (.bool s3)∧w'.cell? ⟨w.heap.size+1,1,none⟩=some (.slice a3 n3 c3)∧w'.cell? ⟨w.heap.size+1,2,none⟩=some (.bool s4)∧w'.cell? ⟨w.heap.size+1,3,none⟩=some (.slice a4 n4 c4))
        (first | with_reducible exact (aR B1.out B2.out L5.out (ψ HSZ.out) (ψ HSZ.out))
               | with_reducible exact (aR B1.out B2.out L4.out (ψ HSZ.out) (ψ HSZ.out))
               | with_reducible exact (aR B1.out B2.out L3.out (ψ HSZ.out) (ψ HSZ.out))
               | with_reducible exact (aR B1.out B2.out L2.out (ψ HSZ.out) (ψ HSZ.out))
               | with_reducible exact (aR B1.out B2.out L1.out (ψ HSZ.out) (ψ HSZ.out))
               | with_reducible exact (aR B1.out B2.out L0.out.drew (ψ HSZ.out) (ψ HSZ.out)))
        (first
          | (have _g:=L4.out;clear _g;go_at_call 69;refine (dM _ _ (x.num*y.den) (y.num*x.den) _ V2.out V4.out sxy.out syx.out).mono ?_;rw [HC.out];rintro e w5 ⟨rfl,hb5⟩
             have L5:Hid (Below W.heap.size W w5):=ae L4.out hb5 ρ;clear hb5)
          | (have _g:=L3.out;clear _g;go_at_call 70;refine (cY _ _ y.num x.den _ (I2.out.below (ae HBL.out L3.out (ψ HSZ.out))) V3.out sy.out sdx.out).mono ?_;rintro e w4 ⟨⟨v4,rfl,hv4⟩,hb4⟩
             have V4:=η hv4;replace V2:=η (V2.out.below hb4);have L4:Hid (Below W.heap.size W w4):=ae L3.out hb4 ρ;clear hb4 hv4)
          | (have _g:=L2.out;clear _g;go_at_call 71;refine (cM _ x k _ (R1.out.below (ae HBL.out L2.out (ψ HSZ.out))) BX.out hk1).mono ?_;rintro e w3 ⟨⟨v3,rfl,hv3⟩,hb3⟩
             have V3:=η hv3;replace V2:=η (V2.out.below hb3);have L3:Hid (Below W.heap.size W w3):=ae L2.out hb3 ρ;clear hb3 hv3)
          | (have _g:=L1.out;clear _g;go_at_call 70;refine (cY _ _ x.num y.den _ (I1.out.below (ae HBL.out L1.out (ψ HSZ.out))) V1.out sx.out sdy.out).mono ?_;rintro e w2 ⟨⟨v2,rfl,hv2⟩,hb2⟩
             have V2:=η hv2;have L2:Hid (Below W.heap.size W w2):=ae L1.out hb2 ρ;clear hb2 hv2)
          | (go_at_call 71;refine (cM _ y l _ (R2.out.below (ae HBL.out L0.out.drew (ψ HSZ.out))) BY.out hl1).mono ?_;rintro e w1 ⟨⟨v1,rfl,hv1⟩,hb1⟩
             have V1:=η hv1;have L1:Hid (Below W.heap.size W w1):=ae L0.out.drew hb1 ρ;clear hb1 hv1))
      go_wp2;exact bodyPost_ret (results_tmp Tryz.results27 _ _ _) rfl ⟨rfl,ae HBL.out L5.out (ψ HSZ.out)⟩
  · have HX:Hid (decide (x.den=1)=false):=decide_eq_false hx
    have HC:Hid (dl (x.num*y.den) (y.num*x.den)=dY x y):=nA x y;clear hx
    go_enter Tryz.func27,Tryz.ntmps27
    go_wp2_with fail
    refine (bW _ x k _ (R1.out.below HBL.out) BX.out hk1).mono ?_;rw [HX.out];rintro e w0 ⟨rfl,hb1⟩;have L0:=η hb1;clear hb1
    go_wp2_with fail
    go_region_held3 (fun w'=>w'.cell? ⟨w.heap.size,0,none⟩=some (.bool s1)∧w'.cell? ⟨w.heap.size,1,none⟩=some (.slice a1 n1 c1)∧w'.cell? ⟨w.heap.size,2,none⟩=some (.bool s2)∧w'.cell? ⟨w.heap.size,3,none⟩=some (.slice a2 n2 c2)∧w'.cell? ⟨w.heap.size+1,0,none⟩=some (.bool s3)∧w'.cell? ⟨w.heap.size+1,1,none⟩=some (.slice a3 n3 c3)∧w'.cell? ⟨w.heap.size+1,2,none⟩=some (.bool s4)∧w'.cell? ⟨w.heap.size+1,3,none⟩=some (.slice a4 n4 c4))
      (first | with_reducible exact (aR B1.out B2.out L5.out (ψ HSZ.out) (ψ HSZ.out))
             | with_reducible exact (aR B1.out B2.out L4.out (ψ HSZ.out) (ψ HSZ.out))
             | with_reducible exact (aR B1.out B2.out L3.out (ψ HSZ.out) (ψ HSZ.out))
             | with_reducible exact (aR B1.out B2.out L2.out (ψ HSZ.out) (ψ HSZ.out))
             | with_reducible exact (aR B1.out B2.out L1.out (ψ HSZ.out) (ψ HSZ.out))
             | with_reducible exact (aR B1.out B2.out L0.out.drew (ψ HSZ.out) (ψ HSZ.out)))
      (first
        | (have _g:=L4.out;clear _g;go_at_call 69;refine (dM _ _ (x.num*y.den) (y.num*x.den) _ V2.out V4.out sxy.out syx.out).mono ?_;rw [HC.out];rintro e w5 ⟨rfl,hb5⟩
           have L5:Hid (Below W.heap.size W w5):=ae L4.out hb5 ρ;clear hb5)
        | (have _g:=L3.out;clear _g;go_at_call 70;refine (cY _ _ y.num x.den _ (I2.out.below (ae HBL.out L3.out (ψ HSZ.out))) V3.out sy.out sdx.out).mono ?_;rintro e w4 ⟨⟨v4,rfl,hv4⟩,hb4⟩
           have V4:=η hv4;replace V2:=η (V2.out.below hb4);have L4:Hid (Below W.heap.size W w4):=ae L3.out hb4 ρ;clear hb4 hv4)
        | (have _g:=L2.out;clear _g;go_at_call 71;refine (cM _ x k _ (R1.out.below (ae HBL.out L2.out (ψ HSZ.out))) BX.out hk1).mono ?_;rintro e w3 ⟨⟨v3,rfl,hv3⟩,hb3⟩
           have V3:=η hv3;replace V2:=η (V2.out.below hb3);have L3:Hid (Below W.heap.size W w3):=ae L2.out hb3 ρ;clear hb3 hv3)
        | (have _g:=L1.out;clear _g;go_at_call 70;refine (cY _ _ x.num y.den _ (I1.out.below (ae HBL.out L1.out (ψ HSZ.out))) V1.out sx.out sdy.out).mono ?_;rintro e w2 ⟨⟨v2,rfl,hv2⟩,hb2⟩
           have V2:=η hv2;have L2:Hid (Below W.heap.size W w2):=ae L1.out hb2 ρ;clear hb2 hv2)
        | (go_at_call 71;refine (cM _ y l _ (R2.out.below (ae HBL.out L0.out.drew (ψ HSZ.out))) BY.out hl1).mono ?_;rintro e w1 ⟨⟨v1,rfl,hv1⟩,hb1⟩
           have V1:=η hv1;have L1:Hid (Below W.heap.size W w1):=ae L0.out.drew hb1 ρ;clear hb1 hv1))
    go_wp2;exact bodyPost_ret (results_tmp Tryz.results27 _ _ _) rfl ⟨rfl,ae HBL.out L5.out (ψ HSZ.out)⟩
end Go.Proofs.Υ
end

section
namespace Dowel
open Go Go.RowKit
theorem keep2 {W w':World} {n g1:Nat} {a b:Value} {t1:TypeId} (b1:Box W g1 #[a,b] t1) (h:Below n W w') (h1:g1<n) :
  w'.cell? ⟨g1,0,.none⟩=.some a∧w'.cell? ⟨g1,1,.none⟩=.some b:=⟨(b1.below h h1).cell 0,(b1.below h h1).cell 1⟩
theorem cmpZ_neg {y c:Int} (h:dl y 0=c) (hc:c<0):y<0:=by
 unfold dl at h
 split at h
 ·assumption
 ·split at h <;> omega
end Dowel
namespace Go.Proofs.Υ
open Go.RowKit Dowel
def RedI (w X:World) (s1:Bool) (a1:Option Addr) (n1 c1:Nat) (s2:Bool) (a2:Option Addr) (n2 c2:Nat) (p q:Int):Prop:=
 Box X w.heap.size #[.bool s1,.slice a1 n1 c1] 54∧Box X (w.heap.size+1) #[.bool s2,.slice a2 n2 c2] 54∧Box X (w.heap.size+2) #[.bool false,.slice none 0 0,.bool false,.slice none 0 0] 56 ∧
 aN X (.agg #[.bool s1,.slice a1 n1 c1]) p∧aN X (.agg #[.bool s2,.slice a2 n2 c2]) q∧Below w.heap.size w X
theorem redI_set {w X:World} {s1 s2 s3 s4:Bool} {a1 a2 a3 a4:Option Addr} {n1 c1 n2 c2 n3 c3 n4 c4:Nat} {p q:Int}
  (b1:Box X w.heap.size #[.bool s1,.slice a1 n1 c1] 54) (b2:Box X (w.heap.size+1) #[.bool s2,.slice a2 n2 c2] 54) (b3:Box X (w.heap.size+2) #[.bool false,.slice none 0 0,.bool false,.slice none 0 0] 56)
  (h1:aN X (.agg #[.bool s3,.slice a3 n3 c3]) p) (h2:aN X (.agg #[.bool s4,.slice a4 n4 c4]) q) (hb:Below w.heap.size w X) :
  RedI w ((((X.setCell ⟨w.heap.size,0,none⟩ (.bool s3)).setCell ⟨w.heap.size,1,none⟩ (.slice a3 n3 c3)).setCell ⟨w.heap.size+1,0,none⟩ (.bool s4)).setCell ⟨w.heap.size+1,1,none⟩ (.slice a4 n4 c4)) s3 a3 n3 c3 s4 a4 n4 c4 p q:=by
 have b2':=b2.other2 (g':=w.heap.size) (i:=0) (j:=1) ω (.bool s3) (.slice a3 n3 c3);exact ⟨(b1.set2 (.bool s3) (.slice a3 n3 c3)).other2 ω _ _,b2'.set2 (.bool s4) (.slice a4 n4 c4),(b3.other2 ω _ _).other2 ω _ _,
  (h1.store2 b1 _ _).store2 b2' _ _,(h2.store2 b1 _ _).store2 b2' _ _,aO (aO hb ρ _ _) ω _ _⟩
theorem eF (va vb:Value) (x y:Int) (w:World) (ha:aN w va x) (hb:aN w vb y) (sx:Small x) (sy:Small y) (hy:y≠0) :
    Calls Tryz.prog 96 #[va,vb] w fun e w'=>dJ w' e (Rat.divInt x y)∧Below w.heap.size w w':=by
  have I1:=η ha;have I2:=η hb;obtain ⟨s1,a1,n1,c1,d1,rfl,-⟩:=ha;obtain ⟨s2,a2,n2,c2,d2,rfl,-⟩:=hb;obtain ⟨W,hW,b1,b2,b3,hB,hS⟩:=cW w #[.bool s1,.slice a1 n1 c1] #[.bool s2,.slice a2 n2 c2] #[.bool false,.slice none 0 0,.bool false,.slice none 0 0] 54 54 56;have B1:=η b1;have B2:=η b2;have B3:=η b3;have HBL:=η hB;have HSZ:=η hS;obtain ⟨x0,x1,x2,x3⟩:=b1.two;obtain ⟨y0,y1,y2,y3⟩:=b2.two;have sx:=η sx;have sy:=η sy;clear b1 b2 b3 hB hS
  go_enter Tryz.func96,Tryz.ntmps96
  go_upto_if 8 with fail
  refine (eQ _ y _ (I2.out.below HBL.out) sy.out).mono ?_;obtain ⟨c,hc⟩:∃ c,dl y 0=c:=⟨_,rfl⟩;rw [hc];have HC:=η hc;rintro e w0 ⟨rfl,hb0⟩;have L0:=η hb0;clear hb0 hW x0 x1 x2 x3 y0 y1 y2 y3 hc
  go_upto_if 8 with fail
  go_cut [] from 5 to 36 (fun wx=>∃ s1 a1 n1 c1 s2 a2 n2 c2,RedI w wx s1 a1 n1 c1 s2 a2 n2 c2 (y.sign*x) y.natAbs)
  case first =>
    by_cases hneg:c<0
    · have hng:decide (c<0)=true:=decide_eq_true hneg
      obtain ⟨x0,x1,x2,x3⟩:=(B1.out.below L0.out (ψ HSZ.out)).two;obtain ⟨y0,y1,y2,y3⟩:=(B2.out.below L0.out (ψ HSZ.out)).two
      go_wp2_with fail
      go_region_with (first
        | (have _g:=L1.out;clear _g;go_at_call 137;refine (qu _ y _ (I2.out.below (ae HBL.out L1.out (ψ HSZ.out))) sy.out).mono ?_;rintro e w2 ⟨⟨v2,rfl,hv2⟩,hb2⟩
           have V2:=η hv2;have V3:=η (V1.out.below hb2);have L2:Hid (Below W.heap.size W w2):=ae L1.out hb2 ρ;obtain ⟨s4,a4,n4,c4,d4,rfl,-⟩:=hv2;obtain ⟨x0,x1,x2,x3⟩:=(B1.out.below L2.out (ψ HSZ.out)).two;obtain ⟨y0,y1,y2,y3⟩:=(B2.out.below L2.out (ψ HSZ.out)).two;clear hb2)
        | (go_at_call 137;refine (qu _ x _ (I1.out.below (ae HBL.out L0.out.drew (ψ HSZ.out))) sx.out).mono ?_;rintro e w1 ⟨⟨v1,rfl,hv1⟩,hb1⟩
           have V1:=η hv1;have L1:Hid (Below W.heap.size W w1):=ae L0.out.drew hb1 ρ;obtain ⟨s3,a3,n3,c3,d3,rfl,-⟩:=hv1;obtain ⟨x0,x1,x2,x3⟩:=(B1.out.below L1.out (ψ HSZ.out)).two;obtain ⟨y0,y1,y2,y3⟩:=(B2.out.below L1.out (ψ HSZ.out)).two;clear hb1))
      all_goals
        have hy0:y<0:=cmpZ_neg HC.out hneg
        go_wp2_with fail
        go_meet;refine ⟨s3,a3,n3,c3,s4,a4,n4,c4,redI_set (B1.out.below L2.out (ψ HSZ.out)) (B2.out.below L2.out (ψ HSZ.out)) (B3.out.below L2.out (ψ HSZ.out)) ?_ ?_ (ae HBL.out L2.out (ψ HSZ.out))⟩
        · rw [Int.sign_eq_neg_one_of_neg hy0,Int.neg_one_mul];exact V3.out
        · rw [show ((y.natAbs:Nat):Int)=-y from by omega];exact V2.out
    · have hng:decide (c<0)=false:=decide_eq_false hneg
      have hy0:0<y:=by
        have:=HC.out
        rcases Int.lt_trichotomy y 0 with h | h | h
        · unfold dl at this;rw [if_pos h] at this;omega
        · exact absurd h hy
        · exact h
      go_wp2_with fail
      go_meet;refine ⟨s1,a1,n1,c1,s2,a2,n2,c2,B1.out.below L0.out (ψ HSZ.out),B2.out.below L0.out (ψ HSZ.out),B3.out.below L0.out (ψ HSZ.out),?_,?_,ae HBL.out L0.out (ψ HSZ.out)⟩
      · rw [Int.sign_eq_one_of_pos hy0,Int.one_mul];exact I1.out.below (ae HBL.out L0.out (ψ HSZ.out))
      · rw [show ((y.natAbs:Nat):Int)=y from by omega];exact I2.out.below (ae HBL.out L0.out (ψ HSZ.out))
  case rest =>
    clear HC L0 B1 B2 B3 HBL HSZ I1 I2;obtain ⟨s1,a1,n1,c1,s2,a2,n2,c2,k1,k2,k3,j1,j2,lb⟩:=hcut;have sp:Hid (Small (y.sign*x)):=by obtain ⟨k,h1,h2⟩:=sx.out;exact ⟨k,h1,by rw [Int.natAbs_mul,Int.natAbs_sign_of_ne_zero hy,Nat.one_mul];exact h2⟩
    have sq:Hid (Small (y.natAbs:Int)):=by obtain ⟨k,h1,h2⟩:=sy.out;exact ⟨k,h1,by rw [Int.natAbs_natCast];exact h2⟩
    obtain ⟨p,hp⟩:∃ p,y.sign*x=p:=⟨_,rfl⟩;have hg:Int.gcd p (y.natAbs:Int)=Int.gcd y x:=by rw [← hp];simp [Int.gcd,Int.natAbs_mul,Int.natAbs_sign_of_ne_zero hy,Nat.gcd_comm]
    have hgp:(0:Int)<(Int.gcd y x:Nat):=by have:=Int.gcd_pos_of_ne_zero_left x hy;omega
    have hd1:((Int.gcd y x:Nat):Int) ∣ p:=by rw [← hg];exact Int.gcd_dvd_left ..
    have hd2:((Int.gcd y x:Nat):Int) ∣ (y.natAbs:Int):=by rw [← hg];exact Int.gcd_dvd_right ..
    have hnum:(Rat.divInt x y).num=p / (Int.gcd y x:Nat):=by rw [Rat.num_divInt,hp]
    have hden:((Rat.divInt x y).den:Int)=(y.natAbs:Int) / (Int.gcd y x:Nat):=by rw [Rat.den_divInt,if_neg hy];simp
    have sg:Hid (Small (Int.gcd y x:Nat)):=by
      obtain ⟨k,h1,h2⟩:=sy.out;exact ⟨k,h1,Nat.lt_of_le_of_lt (by rw [Int.natAbs_natCast];exact Nat.le_of_dvd ω (Int.natAbs_dvd_natAbs.2 (Int.gcd_dvd_left ..))) h2⟩
    generalize Int.gcd y x=G at *;have GP:=η hgp;have D1:=η hd1;have D2:=η hd2;have HN:=η hnum;have HDN:=η hden;have HG:=η hg;have K1:=η k1;have K2:=η k2;have K3:=η k3;have J1:=η j1;have J2:=η j2;have L0:=η lb;rw [hp] at sp;rw [hp] at J1;generalize (y.natAbs:Int)=q at *;obtain ⟨x0,x1,x2,x3⟩:=k1.two;obtain ⟨y0,y1,y2,y3⟩:=k2.two;clear hgp hd1 hd2 hnum hden hg k1 k2 k3 j1 j2 lb hp
    go_wp2_with fail
    refine (mj _ _ p q _ J1.out J2.out sp.out sq.out).mono ?_;rw [HG.out];rintro e w1 ⟨⟨v1,rfl,hv1⟩,hb1⟩;have V1:=η hv1;have L1:=η hb1;obtain ⟨s5,a5,n5,c5,d5,rfl,-⟩:=hv1;clear hb1
    go_wp2_with fail
    obtain ⟨X,hX⟩:∃ X,w1.alloc (.cells #[.bool s5,.slice a5 n5 c5] 54)=X:=⟨_,rfl⟩;obtain ⟨g5,hg5⟩:∃ g,g=w1.heap.size:=⟨_,rfl⟩;have hXL:Below wc.heap.size wc X:=by rw [← hX];exact L1.out.alloc (L1.out.size) _
    have hX5:Box X g5 #[.bool s5,.slice a5 n5 c5] 54:=by rw [← hX];exact Box.new _ _ _ _ hg5
    have hXs:X.heap.size=g5+1:=by rw [← hX,hg5];simp
    have hge:wc.heap.size≤g5:=by rw [hg5];exact L1.out.size
    have hXV:aN X (.agg #[.bool s5,.slice a5 n5 c5]) G:=by rw [← hX];exact V1.out.below (β.alloc ρ _)
    have HX:Hid (w1.alloc (.cells #[.bool s5,.slice a5 n5 c5] 54)=X):=hX;rw [HX.out];rw [← hg5];have L2:=η hXL;have B5:=η hX5;have HS:=η hXs;have HGE:=η hge;have VG:=η hXV;have LX:Hid (Below X.heap.size X X):=Below.refl _ _;obtain ⟨c,hc⟩:∃ c,dl G 1=c:=⟨_,rfl⟩;have HC:=η hc;clear HX hX hXL hX5 hXs hge hXV hg5 x0 x1 x2 x3 y0 y1 y2 y3 hc
    go_region_held3 (fun w'=>w'.cell? ⟨g5,0,none⟩=some (.bool s5)∧w'.cell? ⟨g5,1,none⟩=some (.slice a5 n5 c5))
      (first | with_reducible exact (keep2 B5.out L4.out (ψ HS.out))
             | with_reducible exact (keep2 B5.out L3.out (ψ HS.out))
             | with_reducible exact (keep2 B5.out LX.out.drew (ψ HS.out)))
      (first
        | (have _g:=L3.out;clear _g;go_at_call 69;refine (dM _ _ (G:Int) 1 _ (VG.out.below L3.out) V3.out sg.out ou).mono ?_;rw [HC.out];rintro e w4 ⟨rfl,hb4⟩
           have L4:Hid (Below X.heap.size X w4):=ae L3.out hb4 ρ;clear hb4)
        | (go_at_call 122;refine (j8 _).mono ?_;rintro e w3 ⟨⟨v3,rfl,hv3⟩,hb3⟩
           have V3:=η hv3;have L3:Hid (Below X.heap.size X w3):=ae β.drew hb3 ρ;clear hb3 hv3))
    have LL:=η (L2.out.trans (L4.out.mono L2.out.size));have G5:=η (B5.out.below L4.out (ψ HS.out));have G1:=η (K1.out.below LL.out K1.out.lt);have G2:=η (K2.out.below LL.out K2.out.lt);have G3:=η (K3.out.below LL.out K3.out.lt);have W1:=η (J1.out.below LL.out);have W2:=η (J2.out.below LL.out);have W5:=η (VG.out.below L4.out);have WL:=η (ae L0.out LL.out (ψ K3.out.lt));obtain ⟨x0,x1,x2,x3⟩:=G1.out.two;obtain ⟨y0,y1,y2,y3⟩:=G2.out.two;obtain ⟨z0,z1,z2,z3⟩:=G5.out.two;obtain ⟨u0,u1,u2,u3,u4⟩:=G3.out.four;by_cases hc0:c=0
    · obtain rfl:c=0:=hc0
      have hG1:G=1:=by have:=pY.1 HC.out;omega
      subst hG1;go_wp2;have hnum:=HN.out;have hden:=HDN.out;rw [Int.natCast_one,Int.ediv_one] at hnum hden;exact aS Tryz.results96 (w.heap.size+2) (G3.out.set4 (.bool s1) (.slice a1 n1 c1) (.bool s2) (.slice a2 n2 c2)) _ rfl Tryz.underlying56 rfl bL rfl
        ⟨⟨_,rfl,am.store4 (q:=Rat.divInt x y) ⟨_,_,_,_,_,_,_,_,q,rfl,by rw [hnum];exact W1.out,W2.out,Or.inl hden.symm⟩ G3.out _ _ _ _⟩,aU WL.out ω _ _ _ _⟩
    · have hcb:(c == 0)=false:=by rw [beq_eq_false_iff_ne];exact hc0
      go_wp2_with fail
      refine (kF _ _ p G _ W1.out W5.out sp.out sg.out GP.out D1.out).mono ?_;rintro e w5 ⟨⟨v5,u5,rfl,hv5⟩,hb5⟩;have V5:=η hv5;have M1:=η (G1.out.below hb5 G1.out.lt);have M2:=η (G2.out.below hb5 G2.out.lt);have M3:=η (G3.out.below hb5 G3.out.lt);have M5:=η (G5.out.below hb5 G5.out.lt);have N2:=η (W2.out.below hb5);have N5:=η (W5.out.below hb5);have NL:=η (ae WL.out hb5 ρ);have hne:g5≠w.heap.size:=by have:=K3.out.lt;have:=HGE.out;omega
      have hne1:g5≠w.heap.size+1:=by have:=K3.out.lt;have:=HGE.out;omega
      have hne2:g5≠w.heap.size+2:=by have:=K3.out.lt;have:=HGE.out;omega
      obtain ⟨s6,a6,n6,c6,d6,rfl,-⟩:=hv5;clear hb5 x0 x1 x2 x3 y0 y1 y2 y3 z0 z1 z2 z3 u0 u1 u2 u3 u4 G1 G2 G3 G5 W1 W2 W5 WL;obtain ⟨x0,x1,x2,x3⟩:=M1.out.two;obtain ⟨y0,y1,y2,y3⟩:=M2.out.two;obtain ⟨z0,z1,z2,z3⟩:=M5.out.two;obtain ⟨Y,hY⟩:∃ Y,(w5.setCell ⟨w.heap.size,0,none⟩ (.bool s6)).setCell ⟨w.heap.size,1,none⟩ (.slice a6 n6 c6)=Y:=⟨_,rfl⟩;have t1:Box Y w.heap.size #[.bool s6,.slice a6 n6 c6] 54:=hY ▸ M1.out.set2 _ _;have t2:Box Y (w.heap.size+1) #[.bool s2,.slice a2 n2 c2] 54:=hY ▸ M2.out.other2 ω _ _;have t3:Box Y (w.heap.size+2) #[.bool false,.slice none 0 0,.bool false,.slice none 0 0] 56:=hY ▸ M3.out.other2 ω _ _;have t5:Box Y g5 #[.bool s5,.slice a5 n5 c5] 54:=hY ▸ M5.out.other2 hne _ _;have r1:aN Y (.agg #[.bool s6,.slice a6 n6 c6]) (p / G):=hY ▸ V5.out.store2 M1.out _ _;have r2:aN Y (.agg #[.bool s2,.slice a2 n2 c2]) q:=hY ▸ N2.out.store2 M1.out _ _;have r5:aN Y (.agg #[.bool s5,.slice a5 n5 c5]) G:=hY ▸ N5.out.store2 M1.out _ _;have tl:Below w.heap.size w Y:=hY ▸ aO NL.out ρ _ _;have HY:=η hY;have T1:=η t1;have T2:=η t2;have T3:=η t3;have T5:=η t5;have R1:=η r1;have R2:=η r2;have R5:=η r5;have TL:=η tl;clear hY t1 t2 t3 t5 r1 r2 r5 tl
      go_wp2_with fail
      rw [HY.out];refine (kF _ _ q G _ R2.out R5.out sq.out sg.out GP.out D2.out).mono ?_;rintro e w6 ⟨⟨v6,u6',rfl,hv6⟩,hb6⟩;have V6:=η hv6;have E1:=η (T1.out.below hb6 T1.out.lt);have E2:=η (T2.out.below hb6 T2.out.lt);have E3:=η (T3.out.below hb6 T3.out.lt);have E5:=η (R1.out.below hb6);have EL:=η (ae TL.out hb6 ρ);obtain ⟨s7,a7,n7,c7,d7,rfl,-⟩:=hv6;clear hb6 x0 x1 x2 x3 y0 y1 y2 y3 z0 z1 z2 z3 HY T1 T2 T3 T5 R1 R2 R5 TL M1 M2 M3 M5;obtain ⟨x0,x1,x2,x3⟩:=E1.out.two;obtain ⟨y0,y1,y2,y3⟩:=E2.out.two;obtain ⟨z0,z1,z2,z3,z4⟩:=E3.out.four;go_wp2;have b3:=E3.out.other2 (g':=w.heap.size+1) (i:=0) (j:=1) ω (.bool s7) (.slice a7 n7 c7);exact aS Tryz.results96 (w.heap.size+2) (b3.set4 (.bool s6) (.slice a6 n6 c6) (.bool s7) (.slice a7 n7 c7)) _ rfl Tryz.underlying56 rfl bL rfl
        ⟨⟨_,rfl,am.store4 (q:=Rat.divInt x y) ⟨_,_,_,_,_,_,_,_,q / G,rfl,by rw [HN.out];exact E5.out.store2 E2.out _ _,V6.out.store2 E2.out _ _,Or.inl HDN.out.symm⟩ b3 _ _ _ _⟩,aU (aO EL.out ω _ _) ω _ _ _ _⟩
end Go.Proofs.Υ
end

section
namespace Go.Proofs.Υ
open Go.RowKit Dowel
theorem jL (z:Int):Rat.divInt z 1=(z:Rat):=by
 refine Rat.ext ?_ ?_
 ·rw [Rat.num_divInt];simp
 ·rw [Rat.den_divInt];simp
theorem pB (w:World) (va vb:Value) (x y:Rat) (ha:am w va x) (hb:am w vb y) (t1 t2 t3:TypeId) :
  ∃ s1 a1 n1 c1 s2 a2 n2 c2 s3 a3 n3 c3 s4 a4 n4 c4,va=.agg #[.bool s1,.slice a1 n1 c1,.bool s2,.slice a2 n2 c2]∧vb=.agg #[.bool s3,.slice a3 n3 c3,.bool s4,.slice a4 n4 c4] ∧
   aN w (.agg #[.bool s1,.slice a1 n1 c1]) x.num∧aN w (.agg #[.bool s3,.slice a3 n3 c3]) y.num ∧
   am w (.agg #[.bool s1,.slice a1 n1 c1,.bool s2,.slice a2 n2 c2]) x∧am w (.agg #[.bool s3,.slice a3 n3 c3,.bool s4,.slice a4 n4 c4]) y ∧
   ∃ W,((w.alloc (.cells #[.bool s1,.slice a1 n1 c1,.bool s2,.slice a2 n2 c2] t1)).alloc (.cells #[.bool s3,.slice a3 n3 c3,.bool s4,.slice a4 n4 c4] t2)).alloc (.cells #[.bool false,.slice none 0 0,.bool false,.slice none 0 0] t3)=W ∧
    Box W w.heap.size #[.bool s1,.slice a1 n1 c1,.bool s2,.slice a2 n2 c2] t1∧Box W (w.heap.size+1) #[.bool s3,.slice a3 n3 c3,.bool s4,.slice a4 n4 c4] t2∧Box W (w.heap.size+2) #[.bool false,.slice none 0 0,.bool false,.slice none 0 0] t3∧Below w.heap.size w W∧W.heap.size=w.heap.size+3:=by
 obtain ⟨s1,a1,n1,c1,s2,a2,n2,c2,d1,rfl,i1,i2,hd1⟩:=ha.open;obtain ⟨s3,a3,n3,c3,s4,a4,n4,c4,d2,rfl,i3,i4,hd2⟩:=hb.open;exact ⟨s1,a1,n1,c1,s2,a2,n2,c2,s3,a3,n3,c3,s4,a4,n4,c4,rfl,rfl,i1,i3,ha,hb,cW w _ _ _ t1 t2 t3⟩
theorem eU (va vb:Value) (x y:Rat) (k l:Nat) (w:World) (ha:am w va x) (hb:am w vb y) (hk:Bd k x) (hl:Bd l y) (h1:k+l<1000000) :
    Calls Tryz.prog 45 #[va,vb] w fun e w'=>dJ w' e (x+y)∧Below w.heap.size w w':=by
  obtain ⟨s1,a1,n1,c1,s2,a2,n2,c2,s3,a3,n3,c3,s4,a4,n4,c4,rfl,rfl,i1,i3,ra,rb,W,hW,b1,b2,b3,hB,hS⟩:=pB w va vb x y ha hb 56 56 56;have I1:=η i1;have I2:=η i3;have R1:=η ra;have R2:=η rb;have BX:=η hk;have BY:=η hl;have B1:=η b1;have B2:=η b2;have B3:=η b3;have HBL:=η hB;have HSZ:=η hS;have HW:=η hW;have sx:=η (hk.num ω);have sy:=η (hl.num ω);have sdx:=η (hk.den ω);have sdy:=η (hl.den ω);have hq:((x.den:Int)*y.den:Int)≠0:=by have h1:=x.den_pos;have h2:=y.den_pos;have:=Nat.mul_pos h1 h2;rw [← Int.natCast_mul];omega
  have hqn:((x.den:Int)*y.den:Int).natAbs<B ^ (k+l+1):=by
    rw [Int.natAbs_mul];exact Nat.lt_of_lt_of_le (Bd.pow_mul hk.2 hl.2) (Nat.pow_le_pow_right (by unfold B;omega) ω)
  have sq:Hid (Small ((x.den:Int)*y.den)):=⟨k+l+1,by omega,hqn⟩;have hxy:(x.num*y.den).natAbs<B ^ (k+l):=by rw [Int.natAbs_mul];exact Bd.pow_mul hk.1 hl.2
  have hyx:(y.num*x.den).natAbs<B ^ (k+l):=by rw [Int.natAbs_mul,show k+l=l+k from by omega];exact Bd.pow_mul hl.1 hk.2
  have sxy:Hid (Small (x.num*y.den)):=⟨k+l,by omega,hxy⟩;have syx:Hid (Small (y.num*x.den)):=⟨k+l,by omega,hyx⟩
  have sp:Hid (Small (x.num*y.den+y.num*x.den)):=⟨k+l+1,by omega,by
    have h4:B ^ (k+l+1)=B ^ (k+l)*B:=Nat.pow_succ ..;have h5:B ^ (k+l)*2≤B ^ (k+l)*B:=Nat.mul_le_mul_left _ (by unfold B;omega);exact Nat.lt_of_le_of_lt (Int.natAbs_add_le _ _) ω⟩
  clear hxy hyx;have HC:Hid (Rat.divInt (x.num*y.den+y.num*x.den) ((x.den:Int)*y.den)=x+y):=by
    unfold Hid;rw [jQ];simp
  obtain ⟨x0,x1,x2,x3,x4⟩:=b1.four;obtain ⟨y0,y1,y2,y3,y4⟩:=b2.four;have hk1:k≤1000000:=ω;have hl1:l≤1000000:=ω;clear ha hb i1 i3 ra rb hk hl b1 b2 b3 hB hS h1 hqn;by_cases hx:x.den=1
  · by_cases hy:y.den=1
    · have hc:((x.num+y.num:Int):Rat)=x+y:=by
        rw [jQ,hx,hy,← jL];simp
      have HC:=η hc;have HX:Hid (decide (x.den=1)=true):=decide_eq_true hx;have HY:Hid (decide (y.den=1)=true):=decide_eq_true hy;clear hc hx hy
      go_enter Tryz.func45,Tryz.ntmps45
      go_wp2_with fail
      refine (bW _ x k _ (R1.out.below HBL.out) BX.out hk1).mono ?_;rw [HX.out];rintro e w1 ⟨rfl,hb1⟩;have L1:=η hb1;obtain ⟨z0,z1,z2,z3,z4⟩:=(B2.out.below L1.out (ψ HSZ.out)).four;clear hb1
      go_wp2_with fail
      refine (bW _ y l _ (R2.out.below (ae HBL.out L1.out (ψ HSZ.out))) BY.out hl1).mono ?_;rw [HY.out];rintro e w2 ⟨rfl,hb2⟩;have L2:Hid (Below W.heap.size W w2):=ae L1.out hb2 ρ;obtain ⟨u0,u1,u2,u3,u4⟩:=(B2.out.below L2.out (ψ HSZ.out)).four;obtain ⟨v0,v1,v2,v3,v4⟩:=(B1.out.below L2.out (ψ HSZ.out)).four;clear hb2
      go_wp2_with fail
      refine (qw _ _ x.num y.num _ (I1.out.below (ae HBL.out L2.out (ψ HSZ.out))) (I2.out.below (ae HBL.out L2.out (ψ HSZ.out))) sx.out sy.out).mono ?_;rintro e w3 ⟨⟨v3,rfl,hv3⟩,hb3⟩;have V3:=η hv3;have L3:=η (ae L2.out hb3 ρ);obtain ⟨s5,a5,n5,c5,d5,rfl,-⟩:=hv3;obtain ⟨t0,t1,t2,t3,t4⟩:=(B3.out.below L3.out (ψ HSZ.out)).four;clear hb3;go_wp2;have b4:=B3.out.below L3.out (ψ HSZ.out);exact aS Tryz.results45 (w.heap.size+2) (b4.set4 (.bool s5) (.slice a5 n5 c5) (.bool false) (.slice none 0 0)) _ rfl Tryz.underlying56 rfl bL rfl
        ⟨⟨_,rfl,by rw [← HC.out];exact (jj V3.out).store4 b4 _ _ _ _⟩,aU (ae HBL.out L3.out (ψ HSZ.out)) ω _ _ _ _⟩
    · have HX:Hid (decide (x.den=1)=true):=decide_eq_true hx
      have HY:Hid (decide (y.den=1)=false):=decide_eq_false hy;clear hx hy
      go_enter Tryz.func45,Tryz.ntmps45
      go_wp2_with fail
      refine (bW _ x k _ (R1.out.below HBL.out) BX.out hk1).mono ?_;rw [HX.out];rintro e w1 ⟨rfl,hb1⟩;have L1:=η hb1;obtain ⟨z0,z1,z2,z3,z4⟩:=(B2.out.below L1.out (ψ HSZ.out)).four;clear hb1
      go_wp2_with fail
      refine (bW _ y l _ (R2.out.below (ae HBL.out L1.out (ψ HSZ.out))) BY.out hl1).mono ?_;rw [HY.out];rintro e w0 ⟨rfl,hb2⟩;have L0:Hid (Below W.heap.size W w0):=ae L1.out hb2 ρ;clear hb2 L1
      go_wp2_with fail
      go_region_held3 (fun w'=>w'.cell? ⟨w.heap.size,0,none⟩=some (.bool s1)∧w'.cell? ⟨w.heap.size,1,none⟩=some (.slice a1 n1 c1)∧w'.cell? ⟨w.heap.size,2,none⟩=some (.bool s2)∧w'.cell? ⟨w.heap.size,3,none⟩=some (.slice a2 n2 c2)∧w'.cell? ⟨w.heap.size+1,0,none⟩=some (.bool s3)∧w'.cell? ⟨w.heap.size+1,1,none⟩=some (.slice a3 n3 c3)∧w'.cell? ⟨w.heap.size+1,2,none⟩=some (.bool s4)∧w'.cell? ⟨w.heap.size+1,3,none⟩=some (.slice a4 n4 c4))
        (first | with_reducible exact (ff B1.out B2.out L9.out (ψ HSZ.out) (ψ HSZ.out) ω ω _ _ _ _)
               | with_reducible exact (aR B1.out B2.out L9.out (ψ HSZ.out) (ψ HSZ.out))
               | with_reducible exact (aR B1.out B2.out L8.out (ψ HSZ.out) (ψ HSZ.out))
               | with_reducible exact (aR B1.out B2.out L7.out (ψ HSZ.out) (ψ HSZ.out))
               | with_reducible exact (aR B1.out B2.out L6.out (ψ HSZ.out) (ψ HSZ.out))
               | with_reducible exact (aR B1.out B2.out L5.out (ψ HSZ.out) (ψ HSZ.out))
               | with_reducible exact (aR B1.out B2.out L4.out (ψ HSZ.out) (ψ HSZ.out))
               | with_reducible exact (aR B1.out B2.out L3.out (ψ HSZ.out) (ψ HSZ.out))
               | with_reducible exact (aR B1.out B2.out L2.out (ψ HSZ.out) (ψ HSZ.out))
               | with_reducible exact (aR B1.out B2.out L1.out (ψ HSZ.out) (ψ HSZ.out))
               | with_reducible exact (aR B1.out B2.out L0.out.drew (ψ HSZ.out) (ψ HSZ.out)))
        (first
          | (have _g:=L8.out;clear _g;go_at_call 96;refine (eF _ _ (x.num*y.den+y.num*x.den) ((x.den:Int)*y.den) _ V5.out V8.out sp.out sq.out hq).mono ?_;rintro e w9 ⟨⟨v9,rfl,hv9⟩,hb9⟩
             have V9:=η hv9;have L9:Hid (Below W.heap.size W w9):=ae L8.out hb9 ρ;obtain ⟨s5,a5,n5,c5,s6,a6,n6,c6,d5,rfl,-⟩:=hv9;obtain ⟨z0,z1,z2,z3,z4⟩:=(B3.out.below L9.out (ψ HSZ.out)).four;clear hb9)
          | (have _g:=L7.out;clear _g;go_at_call 70;refine (cY _ _ (x.den:Int) y.den _ V6.out V7.out sdx.out sdy.out).mono ?_;rintro e w8 ⟨⟨v8,rfl,hv8⟩,hb8⟩
             have V8:=η hv8;replace V5:=η (V5.out.below hb8);have L8:Hid (Below W.heap.size W w8):=ae L7.out hb8 ρ;clear hb8 hv8)
          | (have _g:=L6.out;clear _g;go_at_call 71;refine (cM _ y l _ (R2.out.below (ae HBL.out L6.out (ψ HSZ.out))) BY.out hl1).mono ?_;rintro e w7 ⟨⟨v7,rfl,hv7⟩,hb7⟩
             have V7:=η hv7;replace V5:=η (V5.out.below hb7);replace V6:=η (V6.out.below hb7);have L7:Hid (Below W.heap.size W w7):=ae L6.out hb7 ρ;clear hb7 hv7)
          | (have _g:=L5.out;clear _g;go_at_call 71;refine (cM _ x k _ (R1.out.below (ae HBL.out L5.out (ψ HSZ.out))) BX.out hk1).mono ?_;rintro e w6 ⟨⟨v6,rfl,hv6⟩,hb6⟩
             have V6:=η hv6;replace V5:=η (V5.out.below hb6);have L6:Hid (Below W.heap.size W w6):=ae L5.out hb6 ρ;clear hb6 hv6)
          | (have _g:=L4.out;clear _g;go_at_call 95;refine (qw _ _ (x.num*y.den) (y.num*x.den) _ V2.out V4.out sxy.out syx.out).mono ?_;rintro e w5 ⟨⟨v5,rfl,hv5⟩,hb5⟩
             have V5:=η hv5;have L5:Hid (Below W.heap.size W w5):=ae L4.out hb5 ρ;clear hb5 hv5)
          | (have _g:=L3.out;clear _g;go_at_call 70;refine (cY _ _ y.num x.den _ (I2.out.below (ae HBL.out L3.out (ψ HSZ.out))) V3.out sy.out sdx.out).mono ?_;rintro e w4 ⟨⟨v4,rfl,hv4⟩,hb4⟩
             have V4:=η hv4;replace V2:=η (V2.out.below hb4);have L4:Hid (Below W.heap.size W w4):=ae L3.out hb4 ρ;clear hb4 hv4)
          | (have _g:=L2.out;clear _g;go_at_call 71;refine (cM _ x k _ (R1.out.below (ae HBL.out L2.out (ψ HSZ.out))) BX.out hk1).mono ?_;rintro e w3 ⟨⟨v3,rfl,hv3⟩,hb3⟩
             have V3:=η hv3;replace V2:=η (V2.out.below hb3);have L3:Hid (Below W.heap.size W w3):=ae L2.out hb3 ρ;clear hb3 hv3)
          | (have _g:=L1.out;clear _g;go_at_call 70;refine (cY _ _ x.num y.den _ (I1.out.below (ae HBL.out L1.out (ψ HSZ.out))) V1.out sx.out sdy.out).mono ?_;rintro e w2 ⟨⟨v2,rfl,hv2⟩,hb2⟩
             have V2:=η hv2;have L2:Hid (Below W.heap.size W w2):=ae L1.out hb2 ρ;clear hb2 hv2)
          | (go_at_call 71;refine (cM _ y l _ (R2.out.below (ae HBL.out L0.out.drew (ψ HSZ.out))) BY.out hl1).mono ?_;rintro e w1 ⟨⟨v1,rfl,hv1⟩,hb1⟩
             have V1:=η hv1;have L1:Hid (Below W.heap.size W w1):=ae L0.out.drew hb1 ρ;clear hb1 hv1))
      go_wp2;have b4:=B3.out.below L9.out (ψ HSZ.out)
      exact aS Tryz.results45 (w.heap.size+2) (b4.set4 (.bool s5) (.slice a5 n5 c5) (.bool s6) (.slice a6 n6 c6)) _ rfl Tryz.underlying56 rfl bL rfl
        ⟨⟨_,rfl,by have:=V9.out;rw [HC.out] at this;exact this.store4 b4 _ _ _ _⟩,aU (ae HBL.out L9.out (ψ HSZ.out)) ω _ _ _ _⟩
  · have HX:Hid (decide (x.den=1)=false):=decide_eq_false hx
    clear hx
    go_enter Tryz.func45,Tryz.ntmps45
    go_wp2_with fail
    refine (bW _ x k _ (R1.out.below HBL.out) BX.out hk1).mono ?_;rw [HX.out];rintro e w0 ⟨rfl,hb1⟩;have L0:=η hb1;clear hb1
    go_wp2_with fail
    go_region_held3 (fun w'=>w'.cell? ⟨w.heap.size,0,none⟩=some (.bool s1)∧w'.cell? ⟨w.heap.size,1,none⟩=some (.slice a1 n1 c1)∧w'.cell? ⟨w.heap.size,2,none⟩=some (.bool s2)∧w'.cell? ⟨w.heap.size,3,none⟩=some (.slice a2 n2 c2)∧w'.cell? ⟨w.heap.size+1,0,none⟩=some (.bool s3)∧w'.cell? ⟨w.heap.size+1,1,none⟩=some (.slice a3 n3 c3)∧w'.cell? ⟨w.heap.size+1,2,none⟩=some (.bool s4)∧w'.cell? ⟨w.heap.size+1,3,none⟩=some (.slice a4 n4 c4))
      (first | with_reducible exact (ff B1.out B2.out L9.out (ψ HSZ.out) (ψ HSZ.out) ω ω _ _ _ _)
             | with_reducible exact (aR B1.out B2.out L9.out (ψ HSZ.out) (ψ HSZ.out))
             | with_reducible exact (aR B1.out B2.out L8.out (ψ HSZ.out) (ψ HSZ.out))
             | with_reducible exact (aR B1.out B2.out L7.out (ψ HSZ.out) (ψ HSZ.out))
             | with_reducible exact (aR B1.out B2.out L6.out (ψ HSZ.out) (ψ HSZ.out))
             | with_reducible exact (aR B1.out B2.out L5.out (ψ HSZ.out) (ψ HSZ.out))
             | with_reducible exact (aR B1.out B2.out L4.out (ψ HSZ.out) (ψ HSZ.out))
             | with_reducible exact (aR B1.out B2.out L3.out (ψ HSZ.out) (ψ HSZ.out))
             | with_reducible exact (aR B1.out B2.out L2.out (ψ HSZ.out) (ψ HSZ.out))
             | with_reducible exact (aR B1.out B2.out L1.out (ψ HSZ.out) (ψ HSZ.out))
             | with_reducible exact (aR B1.out B2.out L0.out.drew (ψ HSZ.out) (ψ HSZ.out)))
      (first
        | (have _g:=L8.out;clear _g;go_at_call 96;refine (eF _ _ (x.num*y.den+y.num*x.den) ((x.den:Int)*y.den) _ V5.out V8.out sp.out sq.out hq).mono ?_;rintro e w9 ⟨⟨v9,rfl,hv9⟩,hb9⟩
           have V9:=η hv9;have L9:Hid (Below W.heap.size W w9):=ae L8.out hb9 ρ;obtain ⟨s5,a5,n5,c5,s6,a6,n6,c6,d5,rfl,-⟩:=hv9;obtain ⟨z0,z1,z2,z3,z4⟩:=(B3.out.below L9.out (ψ HSZ.out)).four;clear hb9)
        | (have _g:=L7.out;clear _g;go_at_call 70;refine (cY _ _ (x.den:Int) y.den _ V6.out V7.out sdx.out sdy.out).mono ?_;rintro e w8 ⟨⟨v8,rfl,hv8⟩,hb8⟩
           have V8:=η hv8;replace V5:=η (V5.out.below hb8);have L8:Hid (Below W.heap.size W w8):=ae L7.out hb8 ρ;clear hb8 hv8)
        | (have _g:=L6.out;clear _g;go_at_call 71;refine (cM _ y l _ (R2.out.below (ae HBL.out L6.out (ψ HSZ.out))) BY.out hl1).mono ?_;rintro e w7 ⟨⟨v7,rfl,hv7⟩,hb7⟩
           have V7:=η hv7;replace V5:=η (V5.out.below hb7);replace V6:=η (V6.out.below hb7);have L7:Hid (Below W.heap.size W w7):=ae L6.out hb7 ρ;clear hb7 hv7)
        | (have _g:=L5.out;clear _g;go_at_call 71;refine (cM _ x k _ (R1.out.below (ae HBL.out L5.out (ψ HSZ.out))) BX.out hk1).mono ?_;rintro e w6 ⟨⟨v6,rfl,hv6⟩,hb6⟩
           have V6:=η hv6;replace V5:=η (V5.out.below hb6);have L6:Hid (Below W.heap.size W w6):=ae L5.out hb6 ρ;clear hb6 hv6)
        | (have _g:=L4.out;clear _g;go_at_call 95;refine (qw _ _ (x.num*y.den) (y.num*x.den) _ V2.out V4.out sxy.out syx.out).mono ?_;rintro e w5 ⟨⟨v5,rfl,hv5⟩,hb5⟩
           have V5:=η hv5;have L5:Hid (Below W.heap.size W w5):=ae L4.out hb5 ρ;clear hb5 hv5)
        | (have _g:=L3.out;clear _g;go_at_call 70;refine (cY _ _ y.num x.den _ (I2.out.below (ae HBL.out L3.out (ψ HSZ.out))) V3.out sy.out sdx.out).mono ?_;rintro e w4 ⟨⟨v4,rfl,hv4⟩,hb4⟩
           have V4:=η hv4;replace V2:=η (V2.out.below hb4);have L4:Hid (Below W.heap.size W w4):=ae L3.out hb4 ρ;clear hb4 hv4)
        | (have _g:=L2.out;clear _g;go_at_call 71;refine (cM _ x k _ (R1.out.below (ae HBL.out L2.out (ψ HSZ.out))) BX.out hk1).mono ?_;rintro e w3 ⟨⟨v3,rfl,hv3⟩,hb3⟩
           have V3:=η hv3;replace V2:=η (V2.out.below hb3);have L3:Hid (Below W.heap.size W w3):=ae L2.out hb3 ρ;clear hb3 hv3)
        | (have _g:=L1.out;clear _g;go_at_call 70;refine (cY _ _ x.num y.den _ (I1.out.below (ae HBL.out L1.out (ψ HSZ.out))) V1.out sx.out sdy.out).mono ?_;rintro e w2 ⟨⟨v2,rfl,hv2⟩,hb2⟩
           have V2:=η hv2;have L2:Hid (Below W.heap.size W w2):=ae L1.out hb2 ρ;clear hb2 hv2)
        | (go_at_call 71;refine (cM _ y l _ (R2.out.below (ae HBL.out L0.out.drew (ψ HSZ.out))) BY.out hl1).mono ?_;rintro e w1 ⟨⟨v1,rfl,hv1⟩,hb1⟩
           have V1:=η hv1;have L1:Hid (Below W.heap.size W w1):=ae L0.out.drew hb1 ρ;clear hb1 hv1))
    go_wp2;have b4:=B3.out.below L9.out (ψ HSZ.out)
    exact aS Tryz.results45 (w.heap.size+2) (b4.set4 (.bool s5) (.slice a5 n5 c5) (.bool s6) (.slice a6 n6 c6)) _ rfl Tryz.underlying56 rfl bL rfl
      ⟨⟨_,rfl,by have:=V9.out;rw [HC.out] at this;exact this.store4 b4 _ _ _ _⟩,aU (ae HBL.out L9.out (ψ HSZ.out)) ω _ _ _ _⟩
theorem dK (va vb:Value) (x y:Rat) (k l:Nat) (w:World) (ha:am w va x) (hb:am w vb y) (hk:Bd k x) (hl:Bd l y) (h1:k+l<1000000) :
    Calls Tryz.prog 67 #[va,vb] w fun e w'=>dJ w' e (x*y)∧Below w.heap.size w w':=by
  obtain ⟨s1,a1,n1,c1,s2,a2,n2,c2,s3,a3,n3,c3,s4,a4,n4,c4,rfl,rfl,i1,i3,ra,rb,W,hW,b1,b2,b3,hB,hS⟩:=pB w va vb x y ha hb 56 56 56;have I1:=η i1;have I2:=η i3;have R1:=η ra;have R2:=η rb;have BX:=η hk;have BY:=η hl;have B1:=η b1;have B2:=η b2;have B3:=η b3;have HBL:=η hB;have HSZ:=η hS;have HW:=η hW;have sx:=η (hk.num ω);have sy:=η (hl.num ω);have sdx:=η (hk.den ω);have sdy:=η (hl.den ω);have hq:((x.den:Int)*y.den:Int)≠0:=by have h1:=x.den_pos;have h2:=y.den_pos;have:=Nat.mul_pos h1 h2;rw [← Int.natCast_mul];omega
  have hqn:((x.den:Int)*y.den:Int).natAbs<B ^ (k+l+1):=by
    rw [Int.natAbs_mul];exact Nat.lt_of_lt_of_le (Bd.pow_mul hk.2 hl.2) (Nat.pow_le_pow_right (by unfold B;omega) ω)
  have sq:Hid (Small ((x.den:Int)*y.den)):=⟨k+l+1,by omega,hqn⟩;have sp:Hid (Small (x.num*y.num)):=⟨k+l,by omega,by rw [Int.natAbs_mul];exact Bd.pow_mul hk.1 hl.1⟩;have HC:Hid (Rat.divInt (x.num*y.num) ((x.den:Int)*y.den)=x*y):=by
    unfold Hid;rw [jH];simp
  obtain ⟨x0,x1,x2,x3,x4⟩:=b1.four;obtain ⟨y0,y1,y2,y3,y4⟩:=b2.four;have hk1:k≤1000000:=ω;have hl1:l≤1000000:=ω;clear ha hb i1 i3 ra rb hk hl b1 b2 b3 hB hS h1 hqn;by_cases hx:x.den=1
  · by_cases hy:y.den=1
    · have hc:((x.num*y.num:Int):Rat)=x*y:=by
        rw [jH,hx,hy,← jL];simp
      have HC:=η hc;have HX:Hid (decide (x.den=1)=true):=decide_eq_true hx;have HY:Hid (decide (y.den=1)=true):=decide_eq_true hy;clear hc hx hy
      go_enter Tryz.func67,Tryz.ntmps67
      go_wp2_with fail
      refine (bW _ x k _ (R1.out.below HBL.out) BX.out hk1).mono ?_;rw [HX.out];rintro e w1 ⟨rfl,hb1⟩;have L1:=η hb1;obtain ⟨z0,z1,z2,z3,z4⟩:=(B2.out.below L1.out (ψ HSZ.out)).four;clear hb1
      go_wp2_with fail
      refine (bW _ y l _ (R2.out.below (ae HBL.out L1.out (ψ HSZ.out))) BY.out hl1).mono ?_;rw [HY.out];rintro e w2 ⟨rfl,hb2⟩;have L2:Hid (Below W.heap.size W w2):=ae L1.out hb2 ρ;obtain ⟨u0,u1,u2,u3,u4⟩:=(B2.out.below L2.out (ψ HSZ.out)).four;obtain ⟨v0,v1,v2,v3,v4⟩:=(B1.out.below L2.out (ψ HSZ.out)).four;clear hb2
      go_wp2_with fail
      refine (cY _ _ x.num y.num _ (I1.out.below (ae HBL.out L2.out (ψ HSZ.out))) (I2.out.below (ae HBL.out L2.out (ψ HSZ.out))) sx.out sy.out).mono ?_;rintro e w3 ⟨⟨v3,rfl,hv3⟩,hb3⟩;have V3:=η hv3;have L3:=η (ae L2.out hb3 ρ);obtain ⟨s5,a5,n5,c5,d5,rfl,-⟩:=hv3;obtain ⟨t0,t1,t2,t3,t4⟩:=(B3.out.below L3.out (ψ HSZ.out)).four;clear hb3;go_wp2;have b4:=B3.out.below L3.out (ψ HSZ.out);exact aS Tryz.results67 (w.heap.size+2) (b4.set4 (.bool s5) (.slice a5 n5 c5) (.bool false) (.slice none 0 0)) _ rfl Tryz.underlying56 rfl bL rfl
        ⟨⟨_,rfl,by rw [← HC.out];exact (jj V3.out).store4 b4 _ _ _ _⟩,aU (ae HBL.out L3.out (ψ HSZ.out)) ω _ _ _ _⟩
    · have HX:Hid (decide (x.den=1)=true):=decide_eq_true hx
      have HY:Hid (decide (y.den=1)=false):=decide_eq_false hy;clear hx hy
      go_enter Tryz.func67,Tryz.ntmps67
      go_wp2_with fail
      refine (bW _ x k _ (R1.out.below HBL.out) BX.out hk1).mono ?_;rw [HX.out];rintro e w1 ⟨rfl,hb1⟩;have L1:=η hb1;obtain ⟨z0,z1,z2,z3,z4⟩:=(B2.out.below L1.out (ψ HSZ.out)).four;clear hb1
      go_wp2_with fail
      refine (bW _ y l _ (R2.out.below (ae HBL.out L1.out (ψ HSZ.out))) BY.out hl1).mono ?_;rw [HY.out];rintro e w0 ⟨rfl,hb2⟩;have L0:Hid (Below W.heap.size W w0):=ae L1.out hb2 ρ;clear hb2 L1
      go_wp2_with fail
      go_region_held3 (fun w'=>w'.cell? ⟨w.heap.size,0,none⟩=some (.bool s1)∧w'.cell? ⟨w.heap.size,1,none⟩=some (.slice a1 n1 c1)∧w'.cell? ⟨w.heap.size,2,none⟩=some (.bool s2)∧w'.cell? ⟨w.heap.size,3,none⟩=some (.slice a2 n2 c2)∧w'.cell? ⟨w.heap.size+1,0,none⟩=some (.bool s3)∧w'.cell? ⟨w.heap.size+1,1,none⟩=some (.slice a3 n3 c3)∧w'.cell? ⟨w.heap.size+1,2,none⟩=some (.bool s4)∧w'.cell? ⟨w.heap.size+1,3,none⟩=some (.slice a4 n4 c4))
        (first | with_reducible exact (ff B1.out B2.out L5.out (ψ HSZ.out) (ψ HSZ.out) ω ω _ _ _ _)
               | with_reducible exact (aR B1.out B2.out L5.out (ψ HSZ.out) (ψ HSZ.out))
               | with_reducible exact (aR B1.out B2.out L4.out (ψ HSZ.out) (ψ HSZ.out))
               | with_reducible exact (aR B1.out B2.out L3.out (ψ HSZ.out) (ψ HSZ.out))
               | with_reducible exact (aR B1.out B2.out L2.out (ψ HSZ.out) (ψ HSZ.out))
               | with_reducible exact (aR B1.out B2.out L1.out (ψ HSZ.out) (ψ HSZ.out))
               | with_reducible exact (aR B1.out B2.out L0.out.drew (ψ HSZ.out) (ψ HSZ.out)))
        (first
          | (have _g:=L4.out;clear _g;go_at_call 96;refine (eF _ _ (x.num*y.num) ((x.den:Int)*y.den) _ V1.out V4.out sp.out sq.out hq).mono ?_;rintro e w5 ⟨⟨v5,rfl,hv5⟩,hb5⟩
             have V5:=η hv5;have L5:Hid (Below W.heap.size W w5):=ae L4.out hb5 ρ;obtain ⟨s5,a5,n5,c5,s6,a6,n6,c6,d5,rfl,-⟩:=hv5;obtain ⟨z0,z1,z2,z3,z4⟩:=(B3.out.below L5.out (ψ HSZ.out)).four;clear hb5)
          | (have _g:=L3.out;clear _g;go_at_call 70;refine (cY _ _ (x.den:Int) y.den _ V2.out V3.out sdx.out sdy.out).mono ?_;rintro e w4 ⟨⟨v4,rfl,hv4⟩,hb4⟩
             have V4:=η hv4;replace V1:=η (V1.out.below hb4);have L4:Hid (Below W.heap.size W w4):=ae L3.out hb4 ρ;clear hb4 hv4)
          | (have _g:=L2.out;clear _g;go_at_call 71;refine (cM _ y l _ (R2.out.below (ae HBL.out L2.out (ψ HSZ.out))) BY.out hl1).mono ?_;rintro e w3 ⟨⟨v3,rfl,hv3⟩,hb3⟩
             have V3:=η hv3;replace V1:=η (V1.out.below hb3);replace V2:=η (V2.out.below hb3);have L3:Hid (Below W.heap.size W w3):=ae L2.out hb3 ρ;clear hb3 hv3)
          | (have _g:=L1.out;clear _g;go_at_call 71;refine (cM _ x k _ (R1.out.below (ae HBL.out L1.out (ψ HSZ.out))) BX.out hk1).mono ?_;rintro e w2 ⟨⟨v2,rfl,hv2⟩,hb2⟩
             have V2:=η hv2;replace V1:=η (V1.out.below hb2);have L2:Hid (Below W.heap.size W w2):=ae L1.out hb2 ρ;clear hb2 hv2)
          | (go_at_call 70;refine (cY _ _ x.num y.num _ (I1.out.below (ae HBL.out L0.out.drew (ψ HSZ.out))) (I2.out.below (ae HBL.out L0.out.drew (ψ HSZ.out))) sx.out sy.out).mono ?_;rintro e w1 ⟨⟨v1,rfl,hv1⟩,hb1⟩
             have V1:=η hv1;have L1:Hid (Below W.heap.size W w1):=ae L0.out.drew hb1 ρ;clear hb1 hv1))
      go_wp2;have b4:=B3.out.below L5.out (ψ HSZ.out)
      exact aS Tryz.results67 (w.heap.size+2) (b4.set4 (.bool s5) (.slice a5 n5 c5) (.bool s6) (.slice a6 n6 c6)) _ rfl Tryz.underlying56 rfl bL rfl
        ⟨⟨_,rfl,by have:=V5.out;rw [HC.out] at this;exact this.store4 b4 _ _ _ _⟩,aU (ae HBL.out L5.out (ψ HSZ.out)) ω _ _ _ _⟩
  · have HX:Hid (decide (x.den=1)=false):=decide_eq_false hx
    clear hx
    go_enter Tryz.func67,Tryz.ntmps67
    go_wp2_with fail
    refine (bW _ x k _ (R1.out.below HBL.out) BX.out hk1).mono ?_;rw [HX.out];rintro e w0 ⟨rfl,hb1⟩;have L0:=η hb1;clear hb1
    go_wp2_with fail
    go_region_held3 (fun w'=>w'.cell? ⟨w.heap.size,0,none⟩=some (.bool s1)∧w'.cell? ⟨w.heap.size,1,none⟩=some (.slice a1 n1 c1)∧w'.cell? ⟨w.heap.size,2,none⟩=some (.bool s2)∧w'.cell? ⟨w.heap.size,3,none⟩=some (.slice a2 n2 c2)∧w'.cell? ⟨w.heap.size+1,0,none⟩=some (.bool s3)∧w'.cell? ⟨w.heap.size+1,1,none⟩=some (.slice a3 n3 c3)∧w'.cell? ⟨w.heap.size+1,2,none⟩=some (.bool s4)∧w'.cell? ⟨w.heap.size+1,3,none⟩=some (.slice a4 n4 c4))
      (first | with_reducible exact (ff B1.out B2.out L5.out (ψ HSZ.out) (ψ HSZ.out) ω ω _ _ _ _)
             | with_reducible exact (aR B1.out B2.out L5.out (ψ HSZ.out) (ψ HSZ.out))
             | with_reducible exact (aR B1.out B2.out L4.out (ψ HSZ.out) (ψ HSZ.out))
             | with_reducible exact (aR B1.out B2.out L3.out (ψ HSZ.out) (ψ HSZ.out))
             | with_reducible exact (aR B1.out B2.out L2.out (ψ HSZ.out) (ψ HSZ.out))
             | with_reducible exact (aR B1.out B2.out L1.out (ψ HSZ.out) (ψ HSZ.out))
             | with_reducible exact (aR B1.out B2.out L0.out.drew (ψ HSZ.out) (ψ HSZ.out)))
      (first
        | (have _g:=L4.out;clear _g;go_at_call 96;refine (eF _ _ (x.num*y.num) ((x.den:Int)*y.den) _ V1.out V4.out sp.out sq.out hq).mono ?_;rintro e w5 ⟨⟨v5,rfl,hv5⟩,hb5⟩
           have V5:=η hv5;have L5:Hid (Below W.heap.size W w5):=ae L4.out hb5 ρ;obtain ⟨s5,a5,n5,c5,s6,a6,n6,c6,d5,rfl,-⟩:=hv5;obtain ⟨z0,z1,z2,z3,z4⟩:=(B3.out.below L5.out (ψ HSZ.out)).four;clear hb5)
        | (have _g:=L3.out;clear _g;go_at_call 70;refine (cY _ _ (x.den:Int) y.den _ V2.out V3.out sdx.out sdy.out).mono ?_;rintro e w4 ⟨⟨v4,rfl,hv4⟩,hb4⟩
           have V4:=η hv4;replace V1:=η (V1.out.below hb4);have L4:Hid (Below W.heap.size W w4):=ae L3.out hb4 ρ;clear hb4 hv4)
        | (have _g:=L2.out;clear _g;go_at_call 71;refine (cM _ y l _ (R2.out.below (ae HBL.out L2.out (ψ HSZ.out))) BY.out hl1).mono ?_;rintro e w3 ⟨⟨v3,rfl,hv3⟩,hb3⟩
           have V3:=η hv3;replace V1:=η (V1.out.below hb3);replace V2:=η (V2.out.below hb3);have L3:Hid (Below W.heap.size W w3):=ae L2.out hb3 ρ;clear hb3 hv3)
        | (have _g:=L1.out;clear _g;go_at_call 71;refine (cM _ x k _ (R1.out.below (ae HBL.out L1.out (ψ HSZ.out))) BX.out hk1).mono ?_;rintro e w2 ⟨⟨v2,rfl,hv2⟩,hb2⟩
           have V2:=η hv2;replace V1:=η (V1.out.below hb2);have L2:Hid (Below W.heap.size W w2):=ae L1.out hb2 ρ;clear hb2 hv2)
        | (go_at_call 70;refine (cY _ _ x.num y.num _ (I1.out.below (ae HBL.out L0.out.drew (ψ HSZ.out))) (I2.out.below (ae HBL.out L0.out.drew (ψ HSZ.out))) sx.out sy.out).mono ?_;rintro e w1 ⟨⟨v1,rfl,hv1⟩,hb1⟩
           have V1:=η hv1;have L1:Hid (Below W.heap.size W w1):=ae L0.out.drew hb1 ρ;clear hb1 hv1))
    go_wp2;have b4:=B3.out.below L5.out (ψ HSZ.out)
    exact aS Tryz.results67 (w.heap.size+2) (b4.set4 (.bool s5) (.slice a5 n5 c5) (.bool s6) (.slice a6 n6 c6)) _ rfl Tryz.underlying56 rfl bL rfl
      ⟨⟨_,rfl,by have:=V5.out;rw [HC.out] at this;exact this.store4 b4 _ _ _ _⟩,aU (ae HBL.out L5.out (ψ HSZ.out)) ω _ _ _ _⟩
end Go.Proofs.Υ
end

section
namespace Go.Proofs.Υ
open Go.RowKit Dowel
theorem ie (va vb:Value) (x y:Rat) (k l:Nat) (w:World) (ha:am w va x) (hb:am w vb y) (hk:Bd k x) (hl:Bd l y) (h1:k+l<1000000) :
    Calls Tryz.prog 64 #[va,vb] w fun e w'=>dJ w' e (x - y)∧Below w.heap.size w w':=by
  obtain ⟨s1,a1,n1,c1,s2,a2,n2,c2,s3,a3,n3,c3,s4,a4,n4,c4,rfl,rfl,i1,i3,ra,rb,W,hW,b1,b2,b3,hB,hS⟩:=pB w va vb x y ha hb 56 56 56;have I1:=η i1;have I2:=η i3;have R1:=η ra;have R2:=η rb;have BX:=η hk;have BY:=η hl;have B1:=η b1;have B2:=η b2;have B3:=η b3;have HBL:=η hB;have HSZ:=η hS;have HW:=η hW;have sx:=η (hk.num ω);have sy:=η (hl.num ω);have sdx:=η (hk.den ω);have sdy:=η (hl.den ω);have hk1:k≤1000000:=ω;have hl1:l≤1000000:=ω;have L0:=η (iB W);have BN:=η hl.neg;have HK:=η h1;clear ha hb i1 i3 ra rb hk hl b1 b2 b3 hB hS hW h1
  go_enter Tryz.func64,Tryz.ntmps64
  go_wp2_with fail
  rw [HW.out]
  go_region_held3 (fun w'=>w'.cell? ⟨w.heap.size,0,none⟩=some (.bool s1)∧w'.cell? ⟨w.heap.size,1,none⟩=some (.slice a1 n1 c1)∧w'.cell? ⟨w.heap.size,2,none⟩=some (.bool s2)∧w'.cell? ⟨w.heap.size,3,none⟩=some (.slice a2 n2 c2)∧w'.cell? ⟨w.heap.size+1,0,none⟩=some (.bool s3)∧w'.cell? ⟨w.heap.size+1,1,none⟩=some (.slice a3 n3 c3)∧w'.cell? ⟨w.heap.size+1,2,none⟩=some (.bool s4)∧w'.cell? ⟨w.heap.size+1,3,none⟩=some (.slice a4 n4 c4))
    (first | with_reducible exact (ff B1.out B2.out L2.out (ψ HSZ.out) (ψ HSZ.out) ω ω _ _ _ _)
           | with_reducible exact (aR B1.out B2.out L2.out (ψ HSZ.out) (ψ HSZ.out))
           | with_reducible exact (aR B1.out B2.out L1.out (ψ HSZ.out) (ψ HSZ.out))
           | with_reducible exact (aR B1.out B2.out L0.out.drew (ψ HSZ.out) (ψ HSZ.out)))
    (first
      | (have _g:=L1.out;clear _g;go_at_call 45;refine (eU _ _ x (-y) k l _ (R1.out.below (ae HBL.out L1.out (ψ HSZ.out))) V1.out BX.out BN.out HK.out).mono ?_;rintro e w2 ⟨⟨v2,rfl,hv2⟩,hb2⟩
         have V2:=η hv2;have L2:Hid (Below W.heap.size W w2):=ae L1.out hb2 ρ;obtain ⟨s5,a5,n5,c5,s6,a6,n6,c6,d5,rfl,-⟩:=hv2;obtain ⟨z0,z1,z2,z3,z4⟩:=(B3.out.below L2.out (ψ HSZ.out)).four;clear hb2)
      | (go_at_call 117;refine (RNeg_any _ y l _ (R2.out.below (ae HBL.out L0.out.drew (ψ HSZ.out))) BY.out hl1).mono ?_;rintro e w1 ⟨⟨v1,rfl,hv1⟩,hb1⟩
         have V1:=η hv1;have L1:Hid (Below W.heap.size W w1):=ae L0.out.drew hb1 ρ;clear hb1 hv1))
  go_wp2;have b4:=B3.out.below L2.out (ψ HSZ.out)
  exact aS Tryz.results64 (w.heap.size+2) (b4.set4 (.bool s5) (.slice a5 n5 c5) (.bool s6) (.slice a6 n6 c6)) _ rfl Tryz.underlying56 rfl bL rfl
    ⟨⟨_,rfl,by rw [Rat.sub_eq_add_neg];exact V2.out.store4 b4 _ _ _ _⟩,aU (ae HBL.out L2.out (ψ HSZ.out)) ω _ _ _ _⟩
def kB (w:World) (e:Ending) (q:Rat):Prop:=∃ v,e=.returned (.tuple #[v,.int .i64 0])∧am w v q
theorem nt {x y:Rat}:Rat.divInt (x.num*y.den) ((x.den:Int)*y.num)=x / y:=by
 rw [Rat.div_def,Rat.inv_def]
 conv=>rhs;rw [← Rat.num_divInt_den x]
 rw [Rat.divInt_mul_divInt]
theorem Bd.div {k l:Nat} {x y:Rat} (hx:Bd k x) (hy:Bd l y) (h0:y≠0):Bd (k+l) (x / y):=by
 rw [← nt];have hn:y.num≠0:=fun h=>h0 (Rat.num_eq_zero.1 h)
 refine eA ?_ ?_ (Int.mul_ne_zero (ψ x.den_pos) hn)
 ·rw [Int.natAbs_mul];exact Bd.pow_mul hx.1 hy.2
 ·rw [Int.natAbs_mul];exact Bd.pow_mul hx.2 hy.1
theorem kC (va vb:Value) (x y:Rat) (k l:Nat) (w:World) (ha:am w va x) (hb:am w vb y) (hk:Bd k x) (hl:Bd l y) (h1:k+l<1000000) (h0:y≠0) :
    Calls Tryz.prog 62 #[va,vb] w fun e w'=>kB w' e (x / y)∧Below w.heap.size w w':=by
  obtain ⟨s1,a1,n1,c1,s2,a2,n2,c2,s3,a3,n3,c3,s4,a4,n4,c4,rfl,rfl,i1,i3,ra,rb,W,hW,b1,b2,b3,hB,hS⟩:=pB w va vb x y ha hb 56 56 56;have I1:=η i1;have I2:=η i3;have R1:=η ra;have R2:=η rb;have BX:=η hk;have BY:=η hl;have B1:=η b1;have B2:=η b2;have B3:=η b3;have HBL:=η hB;have HSZ:=η hS;have HW:=η hW;have sx:=η (hk.num ω);have sy:=η (hl.num ω);have sdx:=η (hk.den ω);have sdy:=η (hl.den ω);have hk1:k≤1000000:=ω;have hl1:l≤1000000:=ω;have hn:y.num≠0:=fun h=>h0 (Rat.num_eq_zero.1 h)
  have hq:(x.den:Int)*y.num≠0:=Int.mul_ne_zero (ψ x.den_pos) hn;have sp:Hid (Small (x.num*y.den)):=⟨k+l,by omega,by rw [Int.natAbs_mul];exact Bd.pow_mul hk.1 hl.2⟩;have sq:Hid (Small ((x.den:Int)*y.num)):=⟨k+l,by omega,by rw [Int.natAbs_mul];exact Bd.pow_mul hk.2 hl.1⟩;have HC:Hid (Rat.divInt (x.num*y.den) ((x.den:Int)*y.num)=x / y):=nt;obtain ⟨c,hc⟩:∃ c,dl y.num 0=c:=⟨_,rfl⟩;have hcb:(c == 0)=false:=by rw [beq_eq_false_iff_ne,← hc];intro h;exact hn (pY.1 h)
  have HCC:=η hc;have HQ:=η hq;clear ha hb i1 i3 ra rb hk hl b1 b2 b3 hB hS hW h1 h0 hn hq hc;obtain ⟨y0,y1,y2,y3,y4⟩:=B2.out.four
  go_enter Tryz.func62,Tryz.ntmps62
  go_wp2_with fail
  rw [HW.out]
  go_wp2_with fail
  refine (RSign_any _ y l _ (R2.out.below HBL.out) BY.out hl1).mono ?_;rw [HCC.out];rintro e w0 ⟨rfl,hb0⟩;have L0:=η hb0;clear hb0
  go_wp2_with fail
  go_region_held3 (fun w'=>w'.cell? ⟨w.heap.size,0,none⟩=some (.bool s1)∧w'.cell? ⟨w.heap.size,1,none⟩=some (.slice a1 n1 c1)∧w'.cell? ⟨w.heap.size,2,none⟩=some (.bool s2)∧w'.cell? ⟨w.heap.size,3,none⟩=some (.slice a2 n2 c2)∧w'.cell? ⟨w.heap.size+1,0,none⟩=some (.bool s3)∧w'.cell? ⟨w.heap.size+1,1,none⟩=some (.slice a3 n3 c3)∧w'.cell? ⟨w.heap.size+1,2,none⟩=some (.bool s4)∧w'.cell? ⟨w.heap.size+1,3,none⟩=some (.slice a4 n4 c4))
    (first | with_reducible exact (ff B1.out B2.out L5.out (ψ HSZ.out) (ψ HSZ.out) ω ω _ _ _ _)
           | with_reducible exact (aR B1.out B2.out L5.out (ψ HSZ.out) (ψ HSZ.out))
           | with_reducible exact (aR B1.out B2.out L4.out (ψ HSZ.out) (ψ HSZ.out))
           | with_reducible exact (aR B1.out B2.out L3.out (ψ HSZ.out) (ψ HSZ.out))
           | with_reducible exact (aR B1.out B2.out L2.out (ψ HSZ.out) (ψ HSZ.out))
           | with_reducible exact (aR B1.out B2.out L1.out (ψ HSZ.out) (ψ HSZ.out))
           | with_reducible exact (aR B1.out B2.out L0.out.drew (ψ HSZ.out) (ψ HSZ.out)))
    (first
      | (have _g:=L4.out;clear _g;go_at_call 96;refine (eF _ _ (x.num*y.den) ((x.den:Int)*y.num) _ V2.out V4.out sp.out sq.out HQ.out).mono ?_;rintro e w5 ⟨⟨v5,rfl,hv5⟩,hb5⟩
         have V5:=η hv5;have L5:Hid (Below W.heap.size W w5):=ae L4.out hb5 ρ;obtain ⟨s5,a5,n5,c5,s6,a6,n6,c6,d5,rfl,-⟩:=hv5;obtain ⟨z0,z1,z2,z3,z4⟩:=(B3.out.below L5.out (ψ HSZ.out)).four;clear hb5)
      | (have _g:=L3.out;clear _g;go_at_call 70;refine (cY _ _ (x.den:Int) y.num _ V3.out (I2.out.below (ae HBL.out L3.out (ψ HSZ.out))) sdx.out sy.out).mono ?_;rintro e w4 ⟨⟨v4,rfl,hv4⟩,hb4⟩
         have V4:=η hv4;replace V2:=η (V2.out.below hb4);have L4:Hid (Below W.heap.size W w4):=ae L3.out hb4 ρ;clear hb4 hv4)
      | (have _g:=L2.out;clear _g;go_at_call 71;refine (cM _ x k _ (R1.out.below (ae HBL.out L2.out (ψ HSZ.out))) BX.out hk1).mono ?_;rintro e w3 ⟨⟨v3,rfl,hv3⟩,hb3⟩
         have V3:=η hv3;replace V2:=η (V2.out.below hb3);have L3:Hid (Below W.heap.size W w3):=ae L2.out hb3 ρ;clear hb3 hv3)
      | (have _g:=L1.out;clear _g;go_at_call 70;refine (cY _ _ x.num y.den _ (I1.out.below (ae HBL.out L1.out (ψ HSZ.out))) V1.out sx.out sdy.out).mono ?_;rintro e w2 ⟨⟨v2,rfl,hv2⟩,hb2⟩
         have V2:=η hv2;have L2:Hid (Below W.heap.size W w2):=ae L1.out hb2 ρ;clear hb2 hv2)
      | (go_at_call 71;refine (cM _ y l _ (R2.out.below (ae HBL.out L0.out.drew (ψ HSZ.out))) BY.out hl1).mono ?_;rintro e w1 ⟨⟨v1,rfl,hv1⟩,hb1⟩
         have V1:=η hv1;have L1:Hid (Below W.heap.size W w1):=ae L0.out.drew hb1 ρ;clear hb1 hv1))
  go_wp2;have b4:=B3.out.below L5.out (ψ HSZ.out)
  exact bP Tryz.results62 (w.heap.size+2) (b4.set4 (.bool s5) (.slice a5 n5 c5) (.bool s6) (.slice a6 n6 c6)) _ rfl Tryz.underlying56 rfl bL rfl
    ⟨⟨_,rfl,by have:=V5.out;rw [HC.out] at this;exact this.store4 b4 _ _ _ _⟩,aU (ae HBL.out L5.out (ψ HSZ.out)) ω _ _ _ _⟩
end Go.Proofs.Υ
end
