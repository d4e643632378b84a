/- math/bits: OnesCount64. -/
import Derived.Test.YtaibkpbklfodiaaGreatDoorP11
import Derived.Laws.Bits128
set_option linter.all false
set_option maxHeartbeats 100000000
section
namespace Dowel
theorem km (a b r s:Nat) (ha:a<256) (hb:b<256):(a+256*r) &&& (b+256*s)=(a &&& b)+256*(r &&& s):=by
 refine Nat.eq_of_testBit_eq fun i=>?_
 have hab:a &&& b<256:=Nat.lt_of_le_of_lt Nat.and_le_left ha;rw [Nat.testBit_and,Nat.add_comm a,Nat.add_comm b,Nat.add_comm (a &&& b),show 256=2 ^ 8 by rfl,Nat.testBit_two_pow_mul_add _ ha,Nat.testBit_two_pow_mul_add _ hb,Nat.testBit_two_pow_mul_add _ hab]
 split
 ·rw [Nat.testBit_and]
 ·rw [Nat.testBit_and]
def rep (m:Nat):Nat→Nat
 | 0=>0
 | n+1=>m+256*rep m n
theorem mJ (m n:Nat):rep m (n+1)=m+256*rep m n:=rfl
def t1 (b:Nat):Nat:=(b / 2 &&& 85)+(b &&& 85)
def t2 (b:Nat):Nat:=(b / 4 &&& 51)+(b &&& 51)
def t3 (b:Nat):Nat:=(b / 16+b) &&& 15
def s1 (n x:Nat):Nat:=(x / 2 &&& rep 85 n)+(x &&& rep 85 n)
def s2 (n x:Nat):Nat:=(x / 4 &&& rep 51 n)+(x &&& rep 51 n)
def s3 (n x:Nat):Nat:=(x / 16+x) &&& rep 15 n
def eZ (b:Nat):Nat:=((List.range 8).filter fun i=>b.testBit i).length
theorem d1:∀ b,b<256→∀ r,r<2→(b / 2+128*r) &&& 85=b / 2 &&& 85:=by decide +kernel
theorem d2:∀ b,b<256→∀ r,r<4→(b / 4+64*r) &&& 51=b / 4 &&& 51:=by decide +kernel
theorem d3:∀ b,b<69→∀ r,r<5→(b / 16+b+16*r) &&& 15=t3 b:=by decide +kernel
theorem d12:∀ b,b<256→t1 b<256∧t2 b<256∧t2 (t1 b)<69∧t2 (t1 b) % 16<5∧t3 (t2 (t1 b))=eZ b∧eZ b≤8:=by decide +kernel
theorem s1_step (n b y:Nat) (hb:b<256):s1 (n+1) (b+256*y)=t1 b+256*s1 n y:=by
 unfold s1 t1;rw [mJ];have e:(b+256*y) / 2=(b / 2+128*(y % 2))+256*(y / 2):=ω;rw [e,km _ _ _ _ ω ω,km _ _ _ _ hb ω,d1 b hb (y % 2) ω];omega
theorem s2_step (n b y:Nat) (hb:b<256):s2 (n+1) (b+256*y)=t2 b+256*s2 n y:=by
 unfold s2 t2;rw [mJ];have e:(b+256*y) / 4=(b / 4+64*(y % 4))+256*(y / 4):=ω;rw [e,km _ _ _ _ ω ω,km _ _ _ _ hb ω,d2 b hb (y % 4) ω];omega
theorem s3_step (n b y:Nat) (hb:b<69) (hy:y % 16<5):s3 (n+1) (b+256*y)=t3 b+256*s3 n y:=by
 have e:(b+256*y) / 16+(b+256*y)=(b / 16+b+16*(y % 16))+256*(y / 16+y):=ω;unfold s3;rw [e,mJ,km _ _ _ _ ω ω,d3 b hb (y % 16) hy]
def cnt:Nat→Nat→Nat
 | 0,_=>0
 | n+1,x=>eZ (x % 256)+256*cnt n (x / 256)
theorem swar:∀ (n x:Nat),x<256 ^ n→s3 n (s2 n (s1 n x))=cnt n x∧s2 n (s1 n x) % 16<5
 | 0,x,h=>by
  have:x=0:=by simpa using h
  subst this
  decide
 | n+1,x,h=>by
  have ih:=swar n (x / 256) (by rw [Nat.div_lt_iff_lt_mul ω];rw [Nat.pow_succ] at h;exact h);have hb:x % 256<256:=Nat.mod_lt _ ω;obtain ⟨p1,p2,p3,p4,p5,_⟩:=d12 _ hb;have e:x=x % 256+256*(x / 256):=ω;have e1:s1 (n+1) x=t1 (x % 256)+256*s1 n (x / 256):=by
   conv=>lhs;rw [e]
   exact s1_step n _ _ hb
  rw [e1,s2_step n _ _ p1,s3_step n _ _ p3 ih.2,p5,ih.1];refine ⟨rfl,by omega⟩
theorem oC:∀ (n x:Nat),(bA x (8*n)).length=(List.range n).foldr (fun i a=>eZ (x / 256 ^ i % 256)+a) 0
 | 0,x=>rfl
 | n+1,x=>by
  have h1:bA x (8*(n+1))=bA x (8*n) ++ ((List.range 8).map (8*n + ·)).filter fun i=>x.testBit i:=by
   unfold bA;rw [show 8*(n+1)=8*n+8 by omega,List.range_add,List.filter_append]
  have h2:(((List.range 8).map (8*n + ·)).filter fun i=>x.testBit i).length=eZ (x / 256 ^ n % 256):=by
   rw [List.filter_map,List.length_map];unfold eZ
   congr 1
   refine List.filter_congr fun i hi=>?_
   have hi8:=List.mem_range.mp hi;show x.testBit (8*n+i)=_;rw [show 256=2 ^ 8 by rfl,← Nat.pow_mul,Nat.testBit_mod_two_pow,Nat.testBit_div_two_pow];simp [hi8,Nat.add_comm]
  rw [h1,List.length_append,oC n x,h2,List.range_succ,List.foldr_append];have gen:∀ (l:List Nat) (a:Nat),l.foldr (fun i a=>eZ (x / 256 ^ i % 256)+a) a=l.foldr (fun i a=>eZ (x / 256 ^ i % 256)+a) 0+a:=by
   intro l a
   induction l with
   | nil=>simp
   | cons q l ih=>simp only [List.foldr_cons];rw [ih];omega
  rw [List.foldr_cons,List.foldr_nil,Nat.add_zero,gen _ (eZ (x / 256 ^ n % 256))]
theorem fin_sum (c0 c1 c2 c3 c4 c5 c6 c7 X Y Z U:Nat) (h0:c0≤8) (h1:c1≤8) (h2:c2≤8) (h3:c3≤8) (h4:c4≤8) (h5:c5≤8) (h6:c6≤8) (h7:c7≤8)
  (hX:X=c0+256*c1+65536*c2+16777216*c3+4294967296*c4+1099511627776*c5+281474976710656*c6+72057594037927936*c7)
  (hY:Y=X+X / 256) (hZ:Z=Y+Y / 65536) (hU:U=Z+Z / 4294967296):U<9223372036854775808∧Z<18446744073709551616∧Y<18446744073709551616∧X<18446744073709551616∧U % 128=c0+c1+c2+c3+c4+c5+c6+c7:=by
 have y1:X / 256=c1+256*c2+65536*c3+16777216*c4+4294967296*c5+1099511627776*c6+281474976710656*c7:=ω;have y2:Y=(c0+c1)+256*(c1+c2)+65536*(c2+c3)+16777216*(c3+c4)+4294967296*(c4+c5)+1099511627776*(c5+c6)+281474976710656*(c6+c7)+72057594037927936*c7:=ω;have z1:Y / 65536=(c2+c3)+256*(c3+c4)+65536*(c4+c5)+16777216*(c5+c6)+4294967296*(c6+c7)+1099511627776*c7:=by clear hY y1 hZ hU hX;omega
 have z2:Z=(c0+c1+c2+c3)+256*(c1+c2+c3+c4)+65536*(c2+c3+c4+c5)+16777216*(c3+c4+c5+c6)+4294967296*(c4+c5+c6+c7)+1099511627776*(c5+c6+c7)+281474976710656*(c6+c7)+72057594037927936*c7:=by clear hY y1 hU hX;omega
 have u1:Z / 4294967296=(c4+c5+c6+c7)+256*(c5+c6+c7)+65536*(c6+c7)+16777216*c7:=by clear hY y1 hU hX hZ z1 y2;omega
 have u2:U=(c0+c1+c2+c3+c4+c5+c6+c7)+128*(2*(c1+c2+c3+c4+c5+c6+c7)+512*(c2+c3+c4+c5+c6+c7)+131072*(c3+c4+c5+c6+c7)+33554432*(c4+c5+c6+c7)+8589934592*(c5+c6+c7)+2199023255552*(c6+c7)+562949953421312*c7):=by clear hY y1 hX hZ z1 y2;omega
 refine ⟨?_,?_,?_,?_,?_⟩
 ·clear hY y1 hX hZ z1 y2 u1 z2 hU;omega
 ·clear hY y1 hX hZ z1 y2 u1 u2 hU;omega
 ·clear hY y1 hX hZ z1 z2 u1 u2 hU;omega
 ·clear hY y1 y2 hZ z1 z2 u1 u2 hU;omega
 ·clear hY y1 hX hZ z1 y2 u1 z2 hU;omega
theorem fD (n y:Nat):cnt (n+1) y=eZ (y % 256)+256*cnt n (y / 256):=rfl
theorem cnt_zero (y:Nat):cnt 0 y=0:=rfl
theorem cnt_eq (x c0 c1 c2 c3 c4 c5 c6 c7:Nat) (h0:eZ (x % 256)=c0) (h1:eZ (x / 256 % 256)=c1) (h2:eZ (x / 256 / 256 % 256)=c2) (h3:eZ (x / 256 / 256 / 256 % 256)=c3) (h4:eZ (x / 256 / 256 / 256 / 256 % 256)=c4)
  (h5:eZ (x / 256 / 256 / 256 / 256 / 256 % 256)=c5) (h6:eZ (x / 256 / 256 / 256 / 256 / 256 / 256 % 256)=c6) (h7:eZ (x / 256 / 256 / 256 / 256 / 256 / 256 / 256 % 256)=c7) :
  cnt 8 x=c0+256*c1+65536*c2+16777216*c3+4294967296*c4+1099511627776*c5+281474976710656*c6+72057594037927936*c7:=by
 have a8:=fD 7 x;have a7:=fD 6 (x / 256);have a6:=fD 5 (x / 256 / 256);have a5:=fD 4 (x / 256 / 256 / 256);have a4:=fD 3 (x / 256 / 256 / 256 / 256);have a3:=fD 2 (x / 256 / 256 / 256 / 256 / 256);have a2:=fD 1 (x / 256 / 256 / 256 / 256 / 256 / 256);have a1:=fD 0 (x / 256 / 256 / 256 / 256 / 256 / 256 / 256);have a0:=cnt_zero (x / 256 / 256 / 256 / 256 / 256 / 256 / 256 / 256);simp only [Nat.reduceAdd] at a8 a7 a6 a5 a4 a3 a2 a1;rw [h0] at a8;rw [h1] at a7;rw [h2] at a6;rw [h3] at a5;rw [h4] at a4;rw [h5] at a3;rw [h6] at a2;rw [h7] at a1;clear h0 h1 h2 h3 h4 h5 h6 h7;omega
theorem pop64 (x:Nat) (hx:x<18446744073709551616) (a b X Y Z U:Nat) (ha:a=(x / 2 &&& 6148914691236517205)+(x &&& 6148914691236517205)) (hb:b=(a / 4 &&& 3689348814741910323)+(a &&& 3689348814741910323))
  (hX:X=(b / 16+b) &&& 1085102592571150095) (hY:Y=X+X / 256) (hZ:Z=Y+Y / 65536) (hU:U=Z+Z / 4294967296) :
  U<9223372036854775808∧Z<18446744073709551616∧Y<18446744073709551616∧X<18446744073709551616∧U % 128=(bA x 64).length:=by
 have r1:rep 85 8=6148914691236517205:=by decide
 have r2:rep 51 8=3689348814741910323:=by decide
 have r3:rep 15 8=1085102592571150095:=by decide
 have hs:=(swar 8 x (Nat.lt_of_lt_of_le hx ν)).1;have e:X=cnt 8 x:=by
  rw [← hs,hX,hb,ha];unfold s3 s2 s1;rw [r1,r2,r3]
 have q:∀ y,eZ (y % 256)≤8:=fun y=>(d12 (y % 256) (Nat.mod_lt _ ω)).2.2.2.2.2
 have hp:=oC 8 x;rw [show List.range 8=[0,1,2,3,4,5,6,7] from rfl] at hp;simp only [List.foldr_cons,List.foldr_nil,Nat.add_zero,Nat.pow_zero,Nat.div_one] at hp;have dd:∀ k,x / 256 ^ k / 256=x / 256 ^ (k+1):=fun k=>by rw [Nat.div_div_eq_div_mul,Nat.pow_succ]
 have d1:x / 256 ^ 1=x / 256:=by rw [Nat.pow_one]
 rw [← dd 6,← dd 5,← dd 4,← dd 3,← dd 2,← dd 1,d1] at hp;have q0:=q x;have q1:=q (x / 256);have q2:=q (x / 256 / 256);have q3:=q (x / 256 / 256 / 256);have q4:=q (x / 256 / 256 / 256 / 256);have q5:=q (x / 256 / 256 / 256 / 256 / 256);have q6:=q (x / 256 / 256 / 256 / 256 / 256 / 256);have q7:=q (x / 256 / 256 / 256 / 256 / 256 / 256 / 256);generalize g0:eZ (x % 256)=c0 at *;generalize g1:eZ (x / 256 % 256)=c1 at *;generalize g2:eZ (x / 256 / 256 % 256)=c2 at *;generalize g3:eZ (x / 256 / 256 / 256 % 256)=c3 at *;generalize g4:eZ (x / 256 / 256 / 256 / 256 % 256)=c4 at *;generalize g5:eZ (x / 256 / 256 / 256 / 256 / 256 % 256)=c5 at *;generalize g6:eZ (x / 256 / 256 / 256 / 256 / 256 / 256 % 256)=c6 at *;generalize g7:eZ (x / 256 / 256 / 256 / 256 / 256 / 256 / 256 % 256)=c7 at *;have hX2:=e.trans (cnt_eq x c0 c1 c2 c3 c4 c5 c6 c7 g0 g1 g2 g3 g4 g5 g6 g7);have:=fin_sum c0 c1 c2 c3 c4 c5 c6 c7 X Y Z U q0 q1 q2 q3 q4 q5 q6 q7 hX2 hY hZ hU;refine ⟨this.1,this.2.1,this.2.2.1,this.2.2.2.1,?_⟩;rw [this.2.2.2.2,show (64:Nat)=8*8 from rfl,hp];clear hX hY hZ hU hX2 e this ha hb hs hx;omega
end Dowel
namespace Go.Proofs.Υ
open Go.RowKit Dowel
theorem ones_any (x:Nat) (w:World) (hx:x<18446744073709551616) :
  Calls Tryz.prog 58 #[.int .u64 (x:Int)] w fun e w'=>e=.returned (.int .i64 ((bA x 64).length:Nat))∧w'=w:=by
 obtain ⟨p1,h1⟩:∃ p,x / 2 &&& 6148914691236517205=p:=⟨_,rfl⟩;obtain ⟨p2,h2⟩:∃ p,x &&& 6148914691236517205=p:=⟨_,rfl⟩;obtain ⟨a,ha⟩:∃ a,p1+p2=a:=⟨_,rfl⟩;obtain ⟨p3,h3⟩:∃ p,a / 4 &&& 3689348814741910323=p:=⟨_,rfl⟩;obtain ⟨p4,h4⟩:∃ p,a &&& 3689348814741910323=p:=⟨_,rfl⟩;obtain ⟨b,hb⟩:∃ b,p3+p4=b:=⟨_,rfl⟩;obtain ⟨q,hq⟩:∃ q,b / 16+b=q:=⟨_,rfl⟩;obtain ⟨X,hX⟩:∃ X,q &&& 1085102592571150095=X:=⟨_,rfl⟩;obtain ⟨Y,hY⟩:∃ Y,X+X / 256=Y:=⟨_,rfl⟩;obtain ⟨Z,hZ⟩:∃ Z,Y+Y / 65536=Z:=⟨_,rfl⟩;obtain ⟨U,hU⟩:∃ U,Z+Z / 4294967296=U:=⟨_,rfl⟩;have l1:p1≤6148914691236517205:=by rw [← h1];exact Nat.and_le_right
 have l2:p2≤6148914691236517205:=by rw [← h2];exact Nat.and_le_right
 have l3:p3≤3689348814741910323:=by rw [← h3];exact Nat.and_le_right
 have l4:p4≤3689348814741910323:=by rw [← h4];exact Nat.and_le_right
 have hp:=pop64 x hx a b X Y Z U (by rw [← ha,← h1,← h2]) (by rw [← hb,← h3,← h4]) (by rw [← hX,← hq]) hY.symm hZ.symm hU.symm;have e1:bits .and .u64 ((x:Int) / 2) 6148914691236517205=(p1:Int):=by
  rw [← h1,← u64_and_nat _ _ ω ν];rfl
 have e2:bits .and .u64 (x:Int) 6148914691236517205=(p2:Int):=by
  rw [← h2,← u64_and_nat _ _ hx ν];rfl
 have e3:IntKind.u64.wrap ((p1:Int)+(p2:Int))=(a:Int):=by rw [IntKind.wrap_u64];omega
 have e4:bits .and .u64 ((a:Int) / 4) 3689348814741910323=(p3:Int):=by
  rw [← h3,← u64_and_nat _ _ ω ν];rfl
 have e5:bits .and .u64 (a:Int) 3689348814741910323=(p4:Int):=by
  rw [← h4,← u64_and_nat _ _ ω ν];rfl
 have e6:IntKind.u64.wrap ((p3:Int)+(p4:Int))=(b:Int):=by rw [IntKind.wrap_u64];omega
 have e7:IntKind.u64.wrap ((b:Int) / 16+(b:Int))=(q:Int):=by rw [IntKind.wrap_u64];omega
 have e8:bits .and .u64 (q:Int) 1085102592571150095=(X:Int):=by
  rw [← hX,← u64_and_nat _ _ ω ν];rfl
 have e9:IntKind.u64.wrap ((X:Int)+(X:Int) / 256)=(Y:Int):=by rw [IntKind.wrap_u64];omega
 have e10:IntKind.u64.wrap ((Y:Int)+(Y:Int) / 65536)=(Z:Int):=by rw [IntKind.wrap_u64];omega
 have e11:IntKind.u64.wrap ((Z:Int)+(Z:Int) / 4294967296)=(U:Int):=by rw [IntKind.wrap_u64];omega
 have e12:wrap64 (U:Int)=(U:Int):=IntWalk.wrap64_in _ ⟨by omega,by omega⟩;have e13:bits .and .i64 (U:Int) 127=((U % 128:Nat):Int):=by
  rw [i64_and127];omega
 rw [hp.2.2.2.2] at e13;clear h1 h2 ha h3 h4 hb hq hX hY hZ hU l1 l2 l3 l4 hp hx
 go_enter Tryz.func58,Tryz.ntmps58
 go_wp2;exact bodyPost_ret (results_tmp Tryz.results58 _ _ _) rfl ⟨rfl,rfl⟩
end Go.Proofs.Υ
end
