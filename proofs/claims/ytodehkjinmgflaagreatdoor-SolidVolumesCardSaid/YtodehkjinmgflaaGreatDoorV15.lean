/- Lemmas. -/
import Derived.Test.YtodehkjinmgflaaGreatDoorV11
set_option linter.all false
set_option maxHeartbeats 0
set_option maxRecDepth 99999
namespace Go.Proofs.Υ
open Go Go.RowKit Tryz
theorem mI(a b r s:Nat)(ha:a<256)(hb:b<256):(a+256*r) &&& (b+256*s)=(a &&& b)+256*(r &&& s):=by
 refine Nat.eq_of_testBit_eq fun i=>?_
 have e:a &&& b<256:=Nat.lt_of_le_of_lt Nat.and_le_left ha;rw[Nat.testBit_and,Nat.add_comm a,Nat.add_comm b,Nat.add_comm (a &&& b),show 256=2 ^ 8 by rfl,Nat.testBit_two_pow_mul_add _ ha,Nat.testBit_two_pow_mul_add _ hb,Nat.testBit_two_pow_mul_add _ e]
 split
 ·rw[Nat.testBit_and]
 ·rw[Nat.testBit_and]
def rep(m:Nat):Nat->Nat
 | 0=>0
 | n+1=>m+256*rep m n
theorem pP(m n:Nat):rep m (n+1)=m+256*rep m n:=rfl
def t1(b:Nat):Nat:=(b / 2 &&& 85)+(b &&& 85)
def t2(b:Nat):Nat:=(b / 4 &&& 51)+(b &&& 51)
def t3(b:Nat):Nat:=(b / 16+b) &&& 15
def s1(n x:Nat):Nat:=(x / 2 &&& rep 85 n)+(x &&& rep 85 n)
def s2(n x:Nat):Nat:=(x / 4 &&& rep 51 n)+(x &&& rep 51 n)
def s3(n x:Nat):Nat:=(x / 16+x) &&& rep 15 n
def fO(b:Nat):Nat:=((List.range 8).filter fun i=>b.testBit i).length
theorem d1:∀b,b<256->∀r,r<2->(b / 2+128*r) &&& 85=b / 2 &&& 85:=by decide +kernel
theorem d2:∀b,b<256->∀r,r<4->(b / 4+64*r) &&& 51=b / 4 &&& 51:=by decide +kernel
theorem d3:∀b,b<69->∀r,r<5->(b / 16+b+16*r) &&& 15=t3 b:=by decide +kernel
theorem d12:∀b,b<256->t1 b<256/\t2 b<256/\t2 (t1 b)<69/\t2 (t1 b) % 16<5/\t3 (t2 (t1 b))=fO b/\fO b<=8:=by decide +kernel
theorem s1_step(n b y:Nat)(hb:b<256):s1 (n+1) (b+256*y)=t1 b+256*s1 n y:=by
 unfold s1 t1;rw[pP];have e:(b+256*y) / 2=(b / 2+128*(y % 2))+256*(y / 2):=I;rw[e,mI _ _ _ _ I I,mI _ _ _ _ hb I,d1 b hb (y % 2) I];omega
theorem s2_step(n b y:Nat)(hb:b<256):s2 (n+1) (b+256*y)=t2 b+256*s2 n y:=by
 unfold s2 t2;rw[pP];have e:(b+256*y) / 4=(b / 4+64*(y % 4))+256*(y / 4):=I;rw[e,mI _ _ _ _ I I,mI _ _ _ _ hb I,d2 b hb (y % 4) I];omega
theorem s3_step(n b y:Nat)(hb:b<69)(i:y % 16<5):s3 (n+1) (b+256*y)=t3 b+256*s3 n y:=by
 have e:(b+256*y) / 16+(b+256*y)=(b / 16+b+16*(y % 16))+256*(y / 16+y):=I;unfold s3;rw[e,pP,mI _ _ _ _ I I,d3 b hb (y % 16) i]
def cnt:Nat->Nat->Nat
 | 0,_=>0
 | n+1,x=>fO (x % 256)+256*cnt n (x / 256)
theorem swar:∀(n x:Nat),x<256 ^ n->s3 n (s2 n (s1 n x))=cnt n x/\s2 n (s1 n x) % 16<5
 | 0,x,h=>by
  have:x=0:=by simpa using h
  subst this
  decide
 | n+1,x,h=>by
  have i:=swar n (x / 256) (by rw[Nat.div_lt_iff_lt_mul I];rw[Nat.pow_succ]at h;exact h);have hb:x % 256<256:=Nat.mod_lt _ I;obtain⟨p1,p2,u,C,A,_⟩:=d12 _ hb;have e:x=x % 256+256*(x / 256):=I;have j:s1 (n+1) x=t1 (x % 256)+256*s1 n (x / 256):=by
   conv=>lhs;rw[e]
   exact s1_step n _ _ hb
  rw[j,s2_step n _ _ p1,s3_step n _ _ u i.2,A,i.1];refine⟨rfl,by omega⟩
theorem se:∀(n x:Nat),(bw x (8*n)).length=(List.range n).foldr (fun i a=>fO (x / 256 ^ i % 256)+a) 0
 | 0,x=>rfl
 | n+1,x=>by
  have u:bw x (8*(n+1))=bw x (8*n)++((List.range 8).map (8*n + ·)).filter fun i=>x.testBit i:=by
   unfold bw;rw[show 8*(n+1)=8*n+8 by omega,List.range_add,List.filter_append]
  have A:(((List.range 8).map (8*n + ·)).filter fun i=>x.testBit i).length=fO (x / 256 ^ n % 256):=by
   rw[List.filter_map,List.length_map];unfold fO
   congr 1
   refine List.filter_congr fun i hi=>?_
   have j:=List.mem_range.mp hi;show x.testBit (8*n+i)=_;rw[show 256=2 ^ 8 by rfl,<-Nat.pow_mul,Nat.testBit_mod_two_pow,Nat.testBit_div_two_pow];simp[j,Nat.add_comm]
  rw[u,List.length_append,se n x,A,List.range_succ,List.foldr_append];have e:∀(l:List Nat) (a:Nat),l.foldr (fun i a=>fO (x / 256 ^ i % 256)+a) a=l.foldr (fun i a=>fO (x / 256 ^ i % 256)+a) 0+a:=by
   intro l a
   induction l with
   | nil=>simp
   | cons q l ih=>simp only[List.foldr_cons];rw[ih];omega
  rw[List.foldr_cons,List.foldr_nil,Nat.add_zero,e _ (fO (x / 256 ^ n % 256))]
theorem fin_sum(G c1 c2 c3 c4 c5 i e X Y aa U:Nat)(h0:G<=8)(L:c1<=8)(Q:c2<=8)(R:c3<=8)(W:c4<=8)(h5:c5<=8)(h6:i<=8)(h7:e<=8)(C:X=G+256*c1+65536*c2+16777216*c3+4294967296*c4+1099511627776*c5+281474976710656*i+72057594037927936*e)(j:Y=X+X / 256)(E:aa=Y+Y / 65536)(A:U=aa+aa / 4294967296):U<9223372036854775808/\aa<18446744073709551616/\Y<18446744073709551616/\X<18446744073709551616/\U % 128=G+c1+c2+c3+c4+c5+i+e:=by
 have u:X / 256=c1+256*c2+65536*c3+16777216*c4+4294967296*c5+1099511627776*i+281474976710656*e:=I;have H:Y=(G+c1)+256*(c1+c2)+65536*(c2+c3)+16777216*(c3+c4)+4294967296*(c4+c5)+1099511627776*(c5+i)+281474976710656*(i+e)+72057594037927936*e:=I;have F:Y / 65536=(c2+c3)+256*(c3+c4)+65536*(c4+c5)+16777216*(c5+i)+4294967296*(i+e)+1099511627776*e:=by clear j u E A C;omega
 have J:aa=(G+c1+c2+c3)+256*(c1+c2+c3+c4)+65536*(c2+c3+c4+c5)+16777216*(c3+c4+c5+i)+4294967296*(c4+c5+i+e)+1099511627776*(c5+i+e)+281474976710656*(i+e)+72057594037927936*e:=by clear j u A C;omega
 have u1:aa / 4294967296=(c4+c5+i+e)+256*(c5+i+e)+65536*(i+e)+16777216*e:=by clear j u A C E F H;omega
 have u2:U=(G+c1+c2+c3+c4+c5+i+e)+128*(2*(c1+c2+c3+c4+c5+i+e)+512*(c2+c3+c4+c5+i+e)+131072*(c3+c4+c5+i+e)+33554432*(c4+c5+i+e)+8589934592*(c5+i+e)+2199023255552*(i+e)+562949953421312*e):=by clear j u C E F H;omega
 refine⟨?_,?_,?_,?_,?_⟩
 ·clear j u C E F H u1 J A;omega
 ·clear j u C E F H u1 u2 A;omega
 ·clear j u C E F J u1 u2 A;omega
 ·clear j u H E F J u1 u2 A;omega
 ·clear j u C E F H u1 J A;omega
theorem gK(n y:Nat):cnt (n+1) y=fO (y % 256)+256*cnt n (y / 256):=rfl
theorem cnt_zero(y:Nat):cnt 0 y=0:=rfl
theorem cnt_eq(x G c1 c2 c3 c4 c5 H J:Nat)(h0:fO (x % 256)=G)(L:fO (x / 256 % 256)=c1)(Q:fO (x / 256 / 256 % 256)=c2)(R:fO (x / 256 / 256 / 256 % 256)=c3)(U:fO (x / 256 / 256 / 256 / 256 % 256)=c4)(W:fO (x / 256 / 256 / 256 / 256 / 256 % 256)=c5)(X:fO (x / 256 / 256 / 256 / 256 / 256 / 256 % 256)=H)(Y:fO (x / 256 / 256 / 256 / 256 / 256 / 256 / 256 % 256)=J):
 cnt 8 x=G+256*c1+65536*c2+16777216*c3+4294967296*c4+1099511627776*c5+281474976710656*H+72057594037927936*J:=by
 have F:=gK 7 x;have E:=gK 6 (x / 256);have C:=gK 5 (x / 256 / 256);have A:=gK 4 (x / 256 / 256 / 256);have u:=gK 3 (x / 256 / 256 / 256 / 256);have j:=gK 2 (x / 256 / 256 / 256 / 256 / 256);have i:=gK 1 (x / 256 / 256 / 256 / 256 / 256 / 256);have e:=gK 0 (x / 256 / 256 / 256 / 256 / 256 / 256 / 256);have a0:=cnt_zero (x / 256 / 256 / 256 / 256 / 256 / 256 / 256 / 256);simp only[Nat.reduceAdd]at F E C A u j i e;rw[h0]at F;rw[L]at E;rw[Q]at C;rw[R]at A;rw[U]at u;rw[W]at j;rw[X]at i;rw[Y]at e;clear h0 L Q R U W X Y;omega
theorem pop64(x:Nat)(Q:x<18446744073709551616)(a b X Y aa U:Nat)(ha:a=(x / 2 &&& 6148914691236517205)+(x &&& 6148914691236517205))(hb:b=(a / 4 &&& 3689348814741910323)+(a &&& 3689348814741910323))(G:X=(b / 16+b) &&& 1085102592571150095)(H:Y=X+X / 256)(J:aa=Y+Y / 65536)(F:U=aa+aa / 4294967296):
 U<9223372036854775808/\aa<18446744073709551616/\Y<18446744073709551616/\X<18446744073709551616/\U % 128=(bw x 64).length:=by
 have r1:rep 85 8=6148914691236517205:=by decide
 have r2:rep 51 8=3689348814741910323:=by decide
 have r3:rep 15 8=1085102592571150095:=by decide
 have L:=(swar 8 x (Nat.lt_of_lt_of_le Q ν)).1;have e:X=cnt 8 x:=by
  rw[<-L,G,hb,ha];unfold s3 s2 s1;rw[r1,r2,r3]
 have q:∀y,fO (y % 256)<=8:=fun y=>(d12 (y % 256) (Nat.mod_lt _ I)).2.2.2.2.2
 have u:=se 8 x;rw[show List.range 8=[0,1,2,3,4,5,6,7] from rfl]at u;simp only[List.foldr_cons,List.foldr_nil,Nat.add_zero,Nat.pow_zero,Nat.div_one]at u;have i:∀k,x / 256 ^ k / 256=x / 256 ^ (k+1):=fun k=>by rw[Nat.div_div_eq_div_mul,Nat.pow_succ]
 have d1:x / 256 ^ 1=x / 256:=by rw[Nat.pow_one]
 rw[<-i 6,<-i 5,<-i 4,<-i 3,<-i 2,<-i 1,d1]at u;have q0:=q x;have q1:=q (x / 256);have q2:=q (x / 256 / 256);have q3:=q (x / 256 / 256 / 256);have q4:=q (x / 256 / 256 / 256 / 256);have q5:=q (x / 256 / 256 / 256 / 256 / 256);have q6:=q (x / 256 / 256 / 256 / 256 / 256 / 256);have q7:=q (x / 256 / 256 / 256 / 256 / 256 / 256 / 256);generalize R:fO (x % 256)=A at *;generalize W:fO (x / 256 % 256)=c1 at *;generalize g2:fO (x / 256 / 256 % 256)=c2 at *;generalize g3:fO (x / 256 / 256 / 256 % 256)=c3 at *;generalize g4:fO (x / 256 / 256 / 256 / 256 % 256)=c4 at *;generalize g5:fO (x / 256 / 256 / 256 / 256 / 256 % 256)=c5 at *;generalize g6:fO (x / 256 / 256 / 256 / 256 / 256 / 256 % 256)=C at *;generalize g7:fO (x / 256 / 256 / 256 / 256 / 256 / 256 / 256 % 256)=E at *;have j:=e.trans (cnt_eq x A c1 c2 c3 c4 c5 C E R W g2 g3 g4 g5 g6 g7);have:=fin_sum A c1 c2 c3 c4 c5 C E X Y aa U q0 q1 q2 q3 q4 q5 q6 q7 j H J F;refine⟨this.1,this.2.1,this.2.2.1,this.2.2.2.1,?_⟩;rw[this.2.2.2.2,show(64:Nat)=8*8 from rfl,u];clear G H J F j e this ha hb L Q;omega
theorem ones_any(x:Nat)(w:World)(H:x<18446744073709551616):
 Calls prog 132 #[.int .u64 (x:Int)] w fun e w'=>e=.returned (.int .i64 ((bw x 64).length:Nat))/\w'=w:=by
 obtain⟨p1,i⟩:∃p,x / 2 &&& 6148914691236517205=p:=ξ;obtain⟨p2,j⟩:∃p,x &&& 6148914691236517205=p:=ξ;obtain⟨a,ha⟩:=χ (p1+p2);obtain⟨C,u⟩:∃p,a / 4 &&& 3689348814741910323=p:=ξ;obtain⟨E,A⟩:∃p,a &&& 3689348814741910323=p:=ξ;obtain⟨b,hb⟩:=χ (C+E);obtain⟨q,W⟩:=χ (b / 16+b);obtain⟨X,G⟩:=χ (q &&& 1085102592571150095);obtain⟨Y,L⟩:=χ (X+X / 256);obtain⟨ad,Q⟩:=χ (Y+Y / 65536);obtain⟨U,J⟩:=χ (ad+ad / 4294967296);have l1:p1<=6148914691236517205:=by rw[<-i];exact Nat.and_le_right
 have l2:p2<=6148914691236517205:=by rw[<-j];exact Nat.and_le_right
 have l3:C<=3689348814741910323:=by rw[<-u];exact Nat.and_le_right
 have l4:E<=3689348814741910323:=by rw[<-A];exact Nat.and_le_right
 have R:=pop64 x H a b X Y ad U (by rw[<-ha,<-i,<-j]) (by rw[<-hb,<-u,<-A]) (by rw[<-G,<-W]) L.symm Q.symm J.symm;have e1:bits .and .u64 ((x:Int) / 2) 6148914691236517205=(p1:Int):=by
  rw[<-i,<-u64_and_nat _ _ I ν];rfl
 have e2:bits .and .u64 (x:Int) 6148914691236517205=(p2:Int):=by
  rw[<-j,<-u64_and_nat _ _ H ν];rfl
 have e3:IntKind.u64.wrap ((p1:Int)+(p2:Int))=(a:Int):=by rw[IntKind.wrap_u64];omega
 have e4:bits .and .u64 ((a:Int) / 4) 3689348814741910323=(C:Int):=by
  rw[<-u,<-u64_and_nat _ _ I ν];rfl
 have e5:bits .and .u64 (a:Int) 3689348814741910323=(E:Int):=by
  rw[<-A,<-u64_and_nat _ _ I ν];rfl
 have e6:IntKind.u64.wrap ((C:Int)+(E:Int))=(b:Int):=by rw[IntKind.wrap_u64];omega
 have e7:IntKind.u64.wrap ((b:Int) / 16+(b:Int))=(q:Int):=by rw[IntKind.wrap_u64];omega
 have e8:bits .and .u64 (q:Int) 1085102592571150095=(X:Int):=by
  rw[<-G,<-u64_and_nat _ _ I ν];rfl
 have e9:IntKind.u64.wrap ((X:Int)+(X:Int) / 256)=(Y:Int):=by rw[IntKind.wrap_u64];omega
 have aa:IntKind.u64.wrap ((Y:Int)+(Y:Int) / 65536)=(ad:Int):=by rw[IntKind.wrap_u64];omega
 have ab:IntKind.u64.wrap ((ad:Int)+(ad:Int) / 4294967296)=(U:Int):=by rw[IntKind.wrap_u64];omega
 have ac:wrap64 (U:Int)=(U:Int):=ζ;have F:bits .and .i64 (U:Int) 127=((U % 128:Nat):Int):=by
  rw[i64_and127];omega
 rw[R.2.2.2.2]at F;clear i j ha u A hb W G L Q J l1 l2 l3 l4 R H
 go_enter func132,ntmps132
 go_wp2;exact bodyPost_ret (results_tmp results132 _ _ _) rfl ⟨rfl,rfl⟩
end Go.Proofs.Υ
