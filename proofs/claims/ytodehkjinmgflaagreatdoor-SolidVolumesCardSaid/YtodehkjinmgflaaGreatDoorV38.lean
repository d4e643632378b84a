/- Lemmas. -/
import Derived.Test.YtodehkjinmgflaaGreatDoorV24
set_option linter.all false
set_option maxHeartbeats 0
set_option maxRecDepth 99999
namespace Go.Proofs.Υ
open Go Go.RowKit Tryz
theorem js(a b:List UInt8):(⟨a.toArray⟩:ByteArray)++⟨b.toArray⟩=⟨(a++b).toArray⟩:=by
 apply ByteArray.ext;simp
theorem sN{z:Nat}(h:z<100):(⟨(Lib.decDigits z).toArray⟩:ByteArray).size<=2:=by
 by_cases e:z<10
 ·rw[Lib.decDigits_one e];exact Nat.le_succ 1
 ·rw[Lib.decDigits_two e h];exact Nat.le_refl 2
def dS(x:Rat):List UInt8:=if x.den=1 then Lib.decDigits x.num.toNat else Lib.decDigits x.num.toNat++[47]++Lib.decDigits x.den
theorem ip(va:Value)(x:Rat)(w:World)(ha:ak w va x)(h0:0<x.num)(h1:x.num<100)(h2:x.den<100):
 Calls prog 44 #[va] w fun e w'=>e=.returned (.string ⟨(dS x).toArray⟩)/\Bl w w':=by
 obtain⟨s1,a1,n1,c1,s2,a2,n2,c2,d,rfl,i1,i2,hd⟩:=ha.open;have HA:=O ha;obtain⟨G,X⟩:∃G:Nat,(G:Int)=x.num:=⟨x.num.toNat,by omega⟩;have ar:0<G:=I;have U:G<100:=I;have an:Bd 1 x:=⟨by unfold B;omega,by unfold B;omega⟩;rw[<-X]at i1;obtain⟨I1,I2⟩:=η2 i1 i2;obtain⟨W,hW,b1,hB,hS⟩:=aB w #[.bool s1,.slice a1 n1 c1,.bool s2,.slice a2 n2 c2] 55;obtain⟨B1,L0,ac,av⟩:=η4 b1 hB hS an;obtain⟨x0,x1,x2,x3,x4⟩:=b1.four;clear b1 hB hS ha i1 i2 an
 go_enter func44,ntmps44
 go_wp2_with fail
 refine(fJ _ x 1 _ (HA.o.below L0.o) av.o I).mono ?_;rintro e Y ⟨rfl,F⟩;obtain⟨L1,B2⟩:=η2 (ae L0.o F (ψ ac.o)) (B1.o.to F);obtain⟨x0,x1,x2,x3,x4⟩:=B2.o.four;have au:=F.size;have H:=O (show w.heap.size<=Y.heap.size by have:=ac.o;omega);obtain⟨ab,HD⟩:=η2 X hd;clear F au X hd;by_cases j:x.den=1
 ·rw[decide_eq_true j]
  go_wp2_with fail
  refine(pD _ G _ (I1.o.below L1.o) ar U).mono ?_;rintro e w2 ⟨rfl,ag⟩;have L2:=O (ae L1.o ag ρ);clear ag
  go_wp2_with fail
  go_ret;refine⟨?_,L2.o⟩
  unfold dS;rw[if_pos j,<-ab.o]
  rfl
 ·rw[decide_eq_false j]
  obtain⟨L,R⟩:∃L:Nat,L=x.den:=⟨_,rfl⟩;have a3:0<L:=by have:=x.den_pos;omega
  have ao:L<100:=I;have ap:d=(L:Int):=HD.o.elim (fun h=>by rw[h,R]) (fun h=>absurd h.2 j);obtain⟨I3,aw,ay⟩:=η3 (ap▸I2.o) R j;clear R ap j;have KB:Hid (∀w',Bl Y w'->Γ4 w' w.heap.size 0 (.bool s1) w.heap.size 1 (.slice a1 n1 c1) w.heap.size 2 (.bool s2) w.heap.size 3 (.slice a2 n2 c2)):=fun w' h=>by
   obtain⟨x0,x1,x2,x3,-⟩:=(B2.o.to h).four;exact⟨x0,x1,x2,x3⟩
  obtain⟨J,C⟩:∃T:ByteArray,T=⟨(Lib.decDigits G).toArray⟩:=⟨_,rfl⟩;obtain⟨TD,A⟩:∃T:ByteArray,T=⟨(Lib.decDigits L).toArray⟩:=⟨_,rfl⟩;obtain⟨TS,E⟩:∃T:ByteArray,J++⟨#[47]⟩=T:=⟨_,rfl⟩;obtain⟨TA,Q⟩:∃T:ByteArray,TS++TD=T:=⟨_,rfl⟩;have XN:Hid (∀w',Bl Y w'->Calls prog 87 #[.agg #[.bool s1,.slice a1 n1 c1]] w' fun e u=>e=.returned (.string J)/\Bl w' u):=fun w' hS=>by
   rw[C];exact pD _ G w' (I1.o.below (L1.o.trans (hS.mono H.o))) ar U
  have XD:Hid (∀w',Bl Y w'->Calls prog 87 #[.agg #[.bool s2,.slice a2 n2 c2]] w' fun e u=>e=.returned (.string TD)/\Bl w' u):=fun w' hS=>by
   rw[A];exact pD _ L w' (I3.o.below (L1.o.trans (hS.mono H.o))) a3 ao
  obtain⟨a0,az⟩:=η2 E Q;have aa:Hid (TA=⟨(dS x).toArray⟩):=by
   show TA=_;unfold dS;rw[if_neg ay.o,<-Q,<-E,C,A,<-aw.o,show x.num.toNat=G by have:=ab.o;omega];rw[show(⟨#[47]⟩:ByteArray)=⟨[47].toArray⟩ from rfl,js,js]
  have a4:J.size<=2:=by rw[C];exact sN U
  have a5:TD.size<=2:=by rw[A];exact sN ao
  have a6:TS.size=J.size+1:=by rw[<-E,ByteArray.size_append];rfl
  have af:¬ 9223372036854775807<J.size+1:=I;have ad:¬ 9223372036854775807<J.size+1+TD.size:=I;clear C A E Q
  go_upto_region 3 with fail
  refine aU (rest:=1) [isV 0 (.pointer (some ⟨w.heap.size,0,none⟩)),isV 1 (.agg #[.bool s1,.slice a1 n1 c1]),isV 2 (.string J),isV 3 (.string TS),isV 4 (.pointer (some ⟨w.heap.size,2,none⟩)),isV 5 (.agg #[.bool s2,.slice a2 n2 c2]),isV 6 (.string TD),isV 7 (.string TA)] [] ?A3 (τ 8 1) Z [0,1,2,3,4,5,6,7] Z Z Z Z Z Z ?st ?hA ?hop ?hend
  case hA=>exact cZ
  case st=>(iterate 8 refine aq.cons isV.stab ?_);exact aq.nil
  case hop =>
   iterate 2
    refine ai.cons rfl (fun y w' hS hD K hK=>?_) ?_
    ·try simp only[isV.get (hD 0 (by decide +kernel))]at hK⊢
     obtain⟨c0,c1,c2,c3⟩:=KB.o w' hS;go_simp;exact hK.out _ w' hS β isV.put δ
   refine ai.cons rfl (fun y w' hS hD K hK=>?_) ?_
   ·simp only[isV.get (hD 1 Z)]at hK⊢
    go_simp;refine(XN.o w' hS).mono ?_
    rintro e u ⟨rfl,hb⟩;exact hK.out _ u (ae hS hb ρ) hb isV.put δ
   refine ai.cons rfl (fun y w' hS hD K hK=>?_) ?_
   ·simp only[isV.get (hD 2 Z)]at hK⊢
    go_simp;simp only[a0.o,af]
    exact hK.out _ w' hS β isV.put δ
   iterate 2
    refine ai.cons rfl (fun y w' hS hD K hK=>?_) ?_
    ·try simp only[isV.get (hD 4 (by decide +kernel))]at hK⊢
     obtain⟨c0,c1,c2,c3⟩:=KB.o w' hS;go_simp;exact hK.out _ w' hS β isV.put δ
   refine ai.cons rfl (fun y w' hS hD K hK=>?_) ?_
   ·simp only[isV.get (hD 2 Z),isV.get (hD 5 Z)]at hK⊢
    go_simp;refine(XD.o w' hS).mono ?_
    rintro e u ⟨rfl,hb⟩;exact hK.out _ u (ae hS hb ρ) hb isV.put δ
   refine ai.cons rfl (fun y w' hS hD K hK=>?_) ?_
   ·simp only[isV.get (hD 3 Z),isV.get (hD 6 Z)]at hK⊢
    go_simp;simp only[az.o,ad]
    exact hK.out _ w' hS β isV.put δ
   exact ai.nil
  case hend =>
   intro y w' hS hR hF;have e7:=isV.get (hR 7 Z);simp only[e7];refine aL (i:=8) (listed2:=τ 9 0) Z rfl Z (fun K hK=>?_);go_simp;refine hK.out _ _ ?_;clear hK K;refine aP Z ?_
   go_wp2_with fail
   go_ret;exact⟨by rw[aa.o];rfl,L1.o.trans (hS.mono H.o)⟩
def cY(n:Nat):List UInt8:=if n<10 then[UInt8.ofNat (48+n)] else if n<100 then[UInt8.ofNat (48+n / 10),UInt8.ofNat (48+n % 10)] else[UInt8.ofNat (48+n / 100),UInt8.ofNat (48+n / 10 % 10),UInt8.ofNat (48+n % 10)]
def dT(z:Int):List UInt8:=if z<0 then 45::cY z.natAbs else cY z.natAbs
def kS(x:Rat):List UInt8:=if x.den=1 then dT x.num else dT x.num++47::cY x.den
def li(x:Rat):Prop:=x.den<10/\x.num.natAbs<256
theorem txtZ_nat(n:Nat):dT (n:Int)=cY n:=by unfold dT;rw[if_neg I,Int.natAbs_natCast]
def Pow(w : World): Prop := Lib.TabIs prog w "internal/strconv.uint64pow10" .u64 Lib.pow10Tab
theorem pp(z:Int):(⟨(dT z).toArray⟩:ByteArray).size<=4:=by
 show(dT z).toArray.size<=4;unfold dT cY
 repeat' split
 all_goals simp
def txtQ(n:Int)(d:Nat):List UInt8:=
 let g:=Nat.gcd n.natAbs d
 if d / g=1 then dT (n / g)else dT (n / g)++47::cY (d / g)
theorem quotD_all:∀n∈List.range 256,∀d∈List.range 6,quotD (dT ((n:Int)-128)) (cY (d+1))=some (txtQ ((n:Int)-128) (d+1)):=by decide +kernel
def iB(n:Int)(d:Nat):Rat:=mkRat n d
theorem txtQ_eq(n:Int)(d:Nat)(j:0<d):txtQ n d=kS (iB n d):=by
 have u:0<Nat.gcd n.natAbs d:=Nat.gcd_pos_of_pos_right _ j;have e:(iB n d).num=n / (Nat.gcd n.natAbs d:Nat):=by
  unfold iB;rw[Rat.num_mkRat,if_neg I,Nat.gcd_comm]
 have i:(iB n d).den=d / Nat.gcd n.natAbs d:=by
  unfold iB;rw[Rat.den_mkRat,if_neg I,Nat.gcd_comm]
 unfold txtQ kS;rw[e,i]
theorem rR{n:Int}{d:Nat}(h0:0<d)(C:d<10)(F:n.natAbs<256):li (iB n d):=by
 have E:0<Nat.gcd n.natAbs d:=Nat.gcd_pos_of_pos_right _ h0;have u:(iB n d).num=n / (Nat.gcd n.natAbs d:Nat):=by
  unfold iB;rw[Rat.num_mkRat,if_neg I,Nat.gcd_comm]
 have A:(iB n d).den=d / Nat.gcd n.natAbs d:=by
  unfold iB;rw[Rat.den_mkRat,if_neg I,Nat.gcd_comm]
 refine⟨by rw[A];exact Nat.lt_of_le_of_lt (Nat.div_le_self ..) C,?_⟩;rw[u];have e:((Nat.gcd n.natAbs d:Nat):Int)∣n:=Int.natAbs_dvd_natAbs.mp (by rw[Int.natAbs_natCast];exact Nat.gcd_dvd_left ..);obtain⟨k,j⟩:=e;have i:n / (Nat.gcd n.natAbs d:Nat)=k:=by
  conv=>lhs;lhs;rw[j]
  exact Int.mul_ediv_cancel_left _ I
 rw[i];have:=congrArg Int.natAbs j;rw[Int.natAbs_mul,Int.natAbs_natCast]at this;have:k.natAbs<=Nat.gcd n.natAbs d*k.natAbs:=Nat.le_mul_of_pos_left _ E;omega
theorem smaR_frac{n:Int}{d:Nat}(h0:0<d):cP d n.natAbs (iB n d):=by
 refine⟨n,?_,Nat.le_refl _⟩;unfold iB;rw[Rat.mkRat_eq_div];have i:((d:Nat):Rat)≠0:=fun e=>by
  have:d=0:=by exact_mod_cast e
  omega
 exact Rat.div_mul_cancel i
theorem quotD_eq{n:Int}{d:Nat}(i:-128<=n/\n<=127)(h0:0<d)(e:d<=6):quotD (dT n) (cY d)=some (kS (iB n d)):=by
 rw[<-txtQ_eq n d h0];have h:=quotD_all (n+128).toNat (List.mem_range.mpr I) (d-1) (List.mem_range.mpr I);rw[show(((n+128).toNat:Nat):Int)-128=n by omega,show d-1+1=d by omega]at h;exact h
end Go.Proofs.Υ
